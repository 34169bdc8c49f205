/- Plain: rules for loops, numbers, and the order of texts. -/
import Derived.Test.YtmmmpanpbphkdaaGreatDoorXC
import Derived.Test.YtmmmpanpbphkdaaGreatDoorD
import Derived.KernelRfl
set_option linter.unusedVariables false
set_option linter.unusedSimpArgs false
set_option maxRecDepth 100000
open Go Go.X
namespace D
theorem aJ {p : Prop} [Decidable p] (h : p) : decide p = true := decide_eq_true h
theorem bu {p : Prop} [Decidable p] (h : ¬ p) : decide p = false := decide_eq_false h
theorem cI {x : Int} (h : -9223372036854775808 <= x /\ x < 9223372036854775808) : IntKind.i64.wrap x = x := av9 h.1 h.2
theorem dzz (i : Nat) : (decide ((0 : Int) <= (i : Int))) = true := aJ (by omega)
theorem wr1 (i : Nat) (h : i < 4611686018427387904) : IntKind.i64.wrap ((i : Int) + 1) = ((i + 1 : Nat) : Int) := by rw [cI (by omega)]; omega
theorem dlt {α : Type} {l : List α} {i : Nat} (h : i < l.length) : (decide (((i : Nat) : Int) < ((List.length l) : Int))) = true := aJ (by omega)
theorem dnl {α : Type} (l : List α) : (decide (((l.length : Nat) : Int) < ((List.length l) : Int))) = false := bu (by omega)
theorem aX {α : Type} {l : List α} {i : Nat} {d : α} (h : i < l.length) : List.getD l i d = l[i] := by
  simp [List.getD, h]
theorem bT : am = 140737488355328 := rfl
def anX {α σ ρ : Type} (step : σ -> α -> σ ⊕ ρ) (fin : σ -> ρ) : List α -> σ -> ρ
  | [], s => fin s
  | a :: l, s => match step s a with
    | .inl t => anX step fin l t
    | .inr r => r
theorem sk : aco = 1000000000000000000000000 := rfl
theorem auF {S ρ σ α : Type} {b : S -> Option (S ⊕ ρ)} (mk : Nat -> σ -> S) (step : σ -> α -> σ ⊕ ρ) (fin : σ -> ρ) (xs : List α) (Inv : Nat -> σ -> Prop) (hlen : xs.length < 1000000000000000000)
    (h1 : ∀ i (hi : i < xs.length) s, Inv i s -> (∃ t, step s xs[i] = .inl t /\ Inv (i + 1) t /\ b (mk i s) = some (.inl (mk (i + 1) t))) \/ (∃ r, step s xs[i] = .inr r /\ b (mk i s) = some (.inr r)))
    (h2 : ∀ s, Inv xs.length s -> b (mk xs.length s) = some (.inr (fin s))) (s : σ) (hs : Inv 0 s) : aQ b (mk 0 s) = some (anX step fin xs s) := by
  have key : ∀ (k i : Nat) (s : σ), i + k = xs.length -> Inv i s -> lQ b (k + 1) (mk i s) = some (anX step fin (xs.drop i) s) := by
    intro k
    induction k with
    | zero =>
      intro i s hi hv
      have hi : i = xs.length := by omega
      subst hi
      simp only [lQ, h2 s hv, List.drop_length, anX]
    | succ k ih =>
      intro i s hi hv
      have hi2 : i < xs.length := by omega
      rw [List.drop_eq_getElem_cons hi2, anX]
      rcases h1 i hi2 s hv with ⟨t, e1, e2, e3⟩ | ⟨r, e1, e2⟩
      · rw [e1]
        simp only [lQ, e3]
        exact ih (i + 1) t (by omega) e2
      · rw [e1]
        simp only [lQ, e2]
  exact vD (n := xs.length + 1) (by rw [sk]; omega) (key xs.length 0 s (by omega) hs)
theorem bQ {S ρ σ : Type} {b : S -> Option (S ⊕ ρ)} (mk : Nat -> σ -> S) (N : Nat) (Inv : Nat -> σ -> Prop) (Q : ρ -> Prop) (hlen : N < 1000000000000000000)
    (h1 : ∀ i, i < N -> ∀ s, Inv i s -> (∃ t, Inv (i + 1) t /\ b (mk i s) = some (.inl (mk (i + 1) t))) \/ (∃ r, Q r /\ b (mk i s) = some (.inr r)))
    (h2 : ∀ s, Inv N s -> ∃ r, Q r /\ b (mk N s) = some (.inr r)) (s : σ) (hs : Inv 0 s) : ∃ r, aQ b (mk 0 s) = some r /\ Q r := by
  have key : ∀ (k i : Nat) (s : σ), i + k = N -> Inv i s -> ∃ r, lQ b (k + 1) (mk i s) = some r /\ Q r := by
    intro k
    induction k with
    | zero =>
      intro i s hi hv
      have hi : i = N := by omega
      subst hi
      obtain ⟨r, q, e⟩ := h2 s hv
      exact ⟨r, by simp only [lQ, e], q⟩
    | succ k ih =>
      intro i s hi hv
      rcases h1 i (by omega) s hv with ⟨t, e2, e3⟩ | ⟨r, e1, e2⟩
      · obtain ⟨r, e, q⟩ := ih (i + 1) t (by omega) e2
        exact ⟨r, by simp only [lQ, e3]; exact e, q⟩
      · exact ⟨r, by simp only [lQ, e2], e1⟩
  obtain ⟨r, e, q⟩ := key N 0 s (by omega) hs
  exact ⟨r, vD (n := N + 1) (by rw [sk]; omega) e, q⟩
theorem uS {α : Type} {l : List α} {i : Nat} (h : i < l.length) : l.take (i + 1) = l.take i ++ [l[i]] := by
  rw [List.take_add_one, List.getElem?_eq_getElem h]; rfl
abbrev blt := Op.bytesLess
theorem pQ : ∀ a, Op.bytesLess a a = false
  | [] => rfl
  | a :: x => by simp [Op.bytesLess, pQ x]
theorem abi : ∀ {a b c}, Op.bytesLess a b = true -> Op.bytesLess b c = true -> Op.bytesLess a c = true
  | [], [], _, h, _ => by simp [Op.bytesLess] at h
  | _ :: _, [], _, h, _ => by simp [Op.bytesLess] at h
  | _, _ :: _, [], _, h => by simp [Op.bytesLess] at h
  | [], _ :: _, _ :: _, _, _ => rfl
  | a :: x, b :: y, c :: z, h, g => by
    simp only [Op.bytesLess, Bool.or_eq_true, decide_eq_true_eq, Bool.and_eq_true, beq_iff_eq] at h g ⊢
    rcases h with h | ⟨rfl, h⟩
    · rcases g with g | ⟨rfl, g⟩
      · exact .inl (UInt8.lt_trans h g)
      · exact .inl h
    · rcases g with g | ⟨rfl, g⟩
      · exact .inl g
      · exact .inr ⟨rfl, abi h g⟩
theorem sJ : ∀ a b, Op.bytesLess a b = true \/ a = b \/ Op.bytesLess b a = true
  | [], [] => .inr (.inl rfl)
  | [], _ :: _ => .inl rfl
  | _ :: _, [] => .inr (.inr rfl)
  | a :: x, b :: y => by
    simp only [Op.bytesLess, Bool.or_eq_true, decide_eq_true_eq, Bool.and_eq_true, beq_iff_eq, List.cons.injEq]
    rcases UInt8.lt_or_lt_of_ne (a := a) (b := b) |> fun h => (Decidable.em (a = b)).elim (fun e => Or.inl e) (fun e => Or.inr (h e)) with h | h | h
    · subst h
      rcases sJ x y with h | h | h
      · exact .inl (.inr ⟨rfl, h⟩)
      · exact .inr (.inl ⟨rfl, h⟩)
      · exact .inr (.inr (.inr ⟨rfl, h⟩))
    · exact .inl (.inl h)
    · exact .inr (.inr (.inl h))
theorem abh {a b} (h : Op.bytesLess a b = true) : Op.bytesLess b a = false := by
  cases hb : Op.bytesLess b a
  · rfl
  · have := abi h hb
    rw [pQ] at this
    cases this
theorem avN {a b} (h : Op.bytesLess a b = true) : a ≠ b := by
  rintro rfl
  rw [pQ] at h
  cases h
section
variable {α : Type} (key : α -> List UInt8)
def Srt (l : List α) : Prop := l.Pairwise fun a b => Op.bytesLess (key a) (key b) = true
def as7 (x : α) : List α -> List α
  | [] => [x]
  | a :: l => if Op.bytesLess (key x) (key a) = true then x :: a :: l else a :: as7 x l
variable {key}
theorem Srt.tail {a : α} {l : List α} (h : Srt key (a :: l)) : Srt key l := (List.pairwise_cons.1 h).2
theorem Srt.head {a : α} {l : List α} (h : Srt key (a :: l)) : ∀ b ∈ l, Op.bytesLess (key a) (key b) = true := (List.pairwise_cons.1 h).1
def awo (k : List UInt8) (l : List α) : Bool := l.any fun a => decide (key a = k)
theorem arA {x b : α} : ∀ {l : List α}, b ∈ as7 key x l ↔ b = x \/ b ∈ l
  | [] => by simp [as7]
  | a :: l => by
    unfold as7
    split
    · simp
    · simp only [List.mem_cons, arA (l := l)]
      constructor
      · rintro (h | h | h)
        · exact .inr (.inl h)
        · exact .inl h
        · exact .inr (.inr h)
      · rintro (h | h | h)
        · exact .inr (.inl h)
        · exact .inl h
        · exact .inr (.inr h)
theorem Srt.ins {x : α} : ∀ {l : List α}, Srt key l -> awo (key := key) (key x) l = false -> Srt key (as7 key x l)
  | [], _, _ => by simp [as7, Srt]
  | a :: l, hs, hn => by
    simp only [awo, List.any_cons, Bool.or_eq_false_iff, decide_eq_false_iff_not] at hn
    unfold as7
    split
    · rename_i h
      refine List.pairwise_cons.2 ⟨fun b hb => ?_, hs⟩
      rcases List.mem_cons.1 hb with rfl | hb
      · exact h
      · exact abi h (hs.head b hb)
    · rename_i h
      have h2 : Op.bytesLess (key a) (key x) = true := by
        rcases sJ (key a) (key x) with h3 | h3 | h3
        · exact h3
        · exact absurd h3 hn.1
        · exact absurd h3 h
      refine List.pairwise_cons.2 ⟨fun b hb => ?_, Srt.ins hs.tail hn.2⟩
      rcases arA.1 hb with rfl | hb
      · exact h2
      · exact hs.head b hb
end
open Go
theorem ava : acv () = some (true, ()) := by kernel_rfl
theorem arN {p : List aq} {i : Nat} (h : i < p.length) : xp ((p, ()), (i : Int), ()) = some (p[i].1, ()) := by
  have h1 : (decide (((i : Nat) : Int) >= 0)) = true := aJ (by omega)
  have h2 : (decide (((i : Nat) : Int) < (List.length p : Int))) = true := aJ (by omega)
  have h3 := dzz i
  simp only [xp, h1, h2, h3, cond_true, Bool.and_self, Int.toNat_natCast, aX h]
theorem asR {p : List aq} {i : Nat} (h : i < p.length) (hu : p[i].1 = true) (hl : p[i].2.1 = false) : oc ((p, ()), (i : Int), ()) = some (p[i].2.2.2.1, 0, ()) := by
  have h2 : (decide (((i : Nat) : Int) < (List.length p : Int))) = true := aJ (by omega)
  have h3 := dzz i
  simp only [oc, arN h, hu, hl, h2, h3, cond_true, cond_false, Bool.not_true, Bool.and_self, Int.toNat_natCast, aX h]
theorem aiy {p : List aq} {i : Nat} (h : i < p.length) : uN ((p, ()), (i : Int), ()) = some (p[i].1, ()) := by
  have h1 : (decide (((i : Nat) : Int) >= 0)) = true := aJ (by omega)
  have h2 : (decide (((i : Nat) : Int) < (List.length p : Int))) = true := aJ (by omega)
  have h3 := dzz i
  simp only [uN, h1, h2, h3, cond_true, Bool.and_self, Int.toNat_natCast, aX h]
theorem arO {p : List aq} {i : Nat} (h : i < p.length) : vj ((i : Int), p, ()) = some (p[i].1, p, ()) := by
  have h1 : (decide (((i : Nat) : Int) >= 0)) = true := aJ (by omega)
  have h2 : (decide (((i : Nat) : Int) < (List.length p : Int))) = true := aJ (by omega)
  have h3 := dzz i
  simp only [vj, h1, h2, h3, cond_true, Bool.and_self, Int.toNat_natCast, aX h]
theorem aue {p : List aq} {i : Nat} (h : i < p.length) (hu : p[i].1 = true) (hl : p[i].2.1 = false) : ab9 ((p, ()), (i : Int), ()) = some (p[i].2.2.2.1, 0, ()) := by
  have h2 : (decide (((i : Nat) : Int) < (List.length p : Int))) = true := aJ (by omega)
  have h3 := dzz i
  simp only [ab9, aiy h, hu, hl, h2, h3, cond_true, cond_false, Bool.not_true, Bool.and_self, Int.toNat_natCast, aX h]
def mk (ns : List api_Node) (r : Nat -> Int) : List aq := ns.mapIdx fun i n => (true, false, r i, n, ())
theorem oI (ns : List api_Node) (r : Nat -> Int) : (mk ns r).length = ns.length := by simp [mk]
theorem rp {ns : List api_Node} {r : Nat -> Int} {i : Nat} (h : i < (mk ns r).length) : (mk ns r)[i] = (true, false, r i, ns[i]'(by rw [<- oI ns r]; exact h), ()) := by simp [mk]
theorem amu {ns : List api_Node} {r : Nat -> Int} {i : Nat} (h : i < ns.length) (d : aq) : List.getD (mk ns r) i d = (true, false, r i, ns[i], ()) := by
  rw [aX (by rw [oI]; exact h), rp]
theorem auJ {ns : List api_Node} {r : Nat -> Int} {i : Nat} (h : i < ns.length) (v : Int) : (mk ns r).set i (true, false, v, ns[i], ()) = mk ns (fun j => if j = i then v else r j) := by
  apply List.ext_getElem
  · simp [mk]
  · intro j h1 h2
    rw [rp, List.getElem_set]
    split
    · rename_i e; subst e; simp
    · rename_i e
      rw [rp]
      simp [Ne.symm e]
theorem aeT {ns : List api_Node} {r r' : Nat -> Int} (h : ∀ i, i < ns.length -> r i = r' i) : mk ns r = mk ns r' := by
  apply List.ext_getElem
  · simp [mk]
  · intro j h1 h2
    rw [rp, rp, h j (by rw [<- oI ns r]; exact h1)]
theorem av1 (ns : List api_Node) (n : api_Node) (r : Nat -> Int) : mk ns r ++ [(true, false, r ns.length, n, ())] = mk (ns ++ [n]) r := by
  simp [mk, List.mapIdx_append]
theorem me {ns : List api_Node} {r : Nat -> Int} {i : Nat} (h : i < ns.length) : oc ((mk ns r, ()), (i : Int), ()) = some (ns[i], 0, ()) := by
  have h' : i < (mk ns r).length := by rw [oI]; exact h
  rw [asR h' (by rw [rp]) (by rw [rp]), rp]
theorem asI {ns : List api_Node} {r : Nat -> Int} {i : Nat} (h : i < ns.length) : ab9 ((mk ns r, ()), (i : Int), ()) = some (ns[i], 0, ()) := by
  have h' : i < (mk ns r).length := by rw [oI]; exact h
  rw [aue h' (by rw [rp]) (by rw [rp]), rp]
theorem ap2 {p : List aq} (h : p.length <= 100000) : tX ((p, ()), ()) = some (p, ()) := by
  have h1 : (decide ((List.length ([] : List (aq)) + List.length p) * 136 <= am)) = true := aJ (by rw [bT]; simp; omega)
  simp only [tX, h1, cond_true, List.nil_append]
def kidsI (ks : List Nat) : List Int := ks.map fun (k : Nat) => (k : Int)
theorem bW (ks : List Nat) : (kidsI ks).length = ks.length := by simp [kidsI]
theorem m8 {ks : List Nat} {i : Nat} (h : i < ks.length) : List.getD (kidsI ks) i 0 = ((ks[i] : Nat) : Int) := by
  rw [aX (by rw [bW]; exact h)]
  simp [kidsI]
theorem avK {ns : List api_Node} {r : Nat -> Int} {n : api_Node} {ks : List Nat} (hk : n.2.2.1 = kidsI ks) (hr : ∀ k ∈ ks, k < ns.length) (hl : ks.length <= 1000) :
    acF (0, (mk ns r, ()), n, [], 0, 0, ()) = some (.inr ((mk ns r, ()), n, [], 0, 0, ())) := by
  obtain ⟨z, h1, h2⟩ := bQ (b := tU) (fun i (_ : Unit) => ((i : Int), (mk ns r, ()), n, [], 0, 0, ())) ks.length (fun _ _ => True) (fun z => z = .inr ((mk ns r, ()), n, [], 0, 0, ())) (by omega)
    (fun i hi _ _ => by
      left
      refine ⟨(), trivial, ?_⟩
      have e1 : (decide (((i : Nat) : Int) < ((List.length n.2.2.1) : Int))) = true := aJ (by rw [hk, bW]; omega)
      have e2 := dzz i
      have e3 := wr1 i (by omega)
      have hi' : ks[i] < (mk ns r).length := by rw [oI]; exact hr _ (List.getElem_mem hi)
      have e7 : List.getD n.2.2.1 i 0 = ((ks[i] : Nat) : Int) := by rw [hk, m8 hi]
      simp only [tU, e1, e2, cond_true, Bool.and_self, Int.toNat_natCast, e7, aiy hi', rp, Bool.not_true, cond_false, e3])
    (fun _ _ => by
      have e1 : (decide (((ks.length : Nat) : Int) < ((List.length n.2.2.1) : Int))) = false := bu (by rw [hk, bW]; omega)
      exact ⟨_, rfl, by simp only [tU, e1, cond_false]⟩) () trivial
  subst h2
  exact h1
theorem avL {ns : List api_Node} {r : Nat -> Int} {n : api_Node} (hl : ns.length <= 1000) :
    acG (0, (mk ns r, ()), n, [], 0, 0, ()) = some (.inl ((ns.length : Int), (mk ns r, ()), n, [], 0, 0, ())) := by
  obtain ⟨z, h1, h2⟩ := bQ (b := tV) (fun i (_ : Unit) => ((i : Int), (mk ns r, ()), n, [], 0, 0, ())) ns.length (fun _ _ => True) (fun z => z = .inl ((ns.length : Int), (mk ns r, ()), n, [], 0, 0, ())) (by omega)
    (fun i hi _ _ => by
      left
      refine ⟨(), trivial, ?_⟩
      have e1 : (decide (((i : Nat) : Int) < ((List.length (mk ns r)) : Int))) = true := aJ (by rw [oI]; omega)
      have e2 := dzz i
      have e3 := wr1 i (by omega)
      simp only [tV, e1, e2, cond_true, Bool.and_self, Int.toNat_natCast, amu hi, e3])
    (fun _ _ => by
      have e1 : (decide (((ns.length : Nat) : Int) < ((List.length (mk ns r)) : Int))) = false := bu (by rw [oI]; omega)
      exact ⟨_, rfl, by simp only [tV, e1, cond_false]⟩) () trivial
  subst h2
  exact h1
theorem avM {ns : List api_Node} {n : api_Node} {ks : List Nat} {c : Int} (hk : n.2.2.1 = kidsI ks) (hr : ∀ k ∈ ks, k < ns.length) (hn : ks.Nodup) (hl : ks.length <= 1000) :
    acH (c, 0, n, [], 0, 0, mk ns (fun _ => 1), ()) = some (.inl (c, [], 0, 0, mk ns (fun j => if j ∈ ks then 2 else 1), ())) := by
  obtain ⟨z, h1, h2⟩ := bQ (b := tW) (fun i (l : List aq) => (c, (i : Int), n, [], 0, 0, l, ())) ks.length (fun i l => l = mk ns (fun j => if j ∈ ks.take i then 2 else 1)) (fun z => z = .inl (c, [], 0, 0, mk ns (fun j => if j ∈ ks then 2 else 1), ())) (by omega)
    (fun i hi l hl => by
      left
      subst hl
      refine ⟨_, rfl, ?_⟩
      have hik : ks[i] < ns.length := hr _ (List.getElem_mem hi)
      have e1 : (decide (((i : Nat) : Int) < ((List.length n.2.2.1) : Int))) = true := aJ (by rw [hk, bW]; omega)
      have e2 := dzz i
      have e3 := wr1 i (by omega)
      have e4 : (decide ((0 : Int) <= ((ks[i] : Nat) : Int))) = true := aJ (by omega)
      have e5 : ∀ r, (decide (((ks[i] : Nat) : Int) < (List.length (mk ns r) : Int))) = true := fun r => aJ (by rw [oI]; omega)
      have hnot : ks[i] ∉ ks.take i := fun hm => by
        have h2 := uS hi
        have hnd : (ks.take (i + 1)).Nodup := hn.sublist (List.take_sublist _ _)
        rw [h2, List.nodup_append] at hnd
        exact hnd.2.2 _ hm _ (by simp) rfl
      have e7 : List.getD n.2.2.1 i 0 = ((ks[i] : Nat) : Int) := by rw [hk, m8 hi]
      simp only [tW, e1, e2, cond_true, Bool.and_self, Int.toNat_natCast, e7, e4, e5, amu hik, e3, if_neg hnot]
      have e6 : IntKind.i64.wrap ((1 : Int) + 1) = 2 := by rw [cI (by omega)]; omega
      have e8 : mk ns (fun j => if j = ks[i] then 2 else if j ∈ ks.take i then 2 else 1) = mk ns (fun j => if j ∈ ks.take (i + 1) then 2 else 1) := aeT fun j _ => by
        have hm : j ∈ ks.take (i + 1) ↔ (j ∈ ks.take i \/ j = ks[i]) := by rw [uS hi, List.mem_append, List.mem_singleton]
        by_cases hj : j = ks[i]
        · rw [if_pos hj, if_pos (hm.2 (.inr hj))]
        · rw [if_neg hj]
          by_cases h2 : j ∈ ks.take i
          · rw [if_pos h2, if_pos (hm.2 (.inl h2))]
          · rw [if_neg h2, if_neg (fun h => (hm.1 h).elim h2 hj)]
      rw [e6, auJ hik, e8])
    (fun l hl => by
      subst hl
      have e1 : (decide (((ks.length : Nat) : Int) < ((List.length n.2.2.1) : Int))) = false := bu (by rw [hk, bW]; omega)
      exact ⟨_, rfl, by simp only [tW, e1, cond_false, List.take_length]⟩) (mk ns (fun _ => 1)) (aeT fun j _ => by simp)
  subst h2
  exact h1
theorem aut {ns : List api_Node} {n : api_Node} {ks : List Nat} (hk : n.2.2.1 = kidsI ks) (hr : ∀ k ∈ ks, k < ns.length) (hn : ks.Nodup) (hl : ks.length <= 1000) (hnl : ns.length <= 900) :
    sV ((mk ns (fun _ => 1), ()), n, ()) = some (((mk (ns ++ [n]) (fun j => if j ∈ ks then 2 else 1), ()), ((ns.length : Int), (0, ()))), ()) := by
  have e1 : (decide (((ns.length : Nat) : Int) >= 4096)) = false := bu (by omega)
  have hlen : (mk ns (fun _ => 1)).length = ns.length := oI _ _
  have e2 : (decide (((ns.length : Nat) : Int) = ((List.length (mk ns (fun _ => 1))) : Int))) = true := aJ (by rw [hlen])
  have e3 : ∀ d : aq, (decide ((List.length (mk ns (fun _ => 1)) + List.length ([d] : List (aq))) * 136 <= am)) = true := fun d => aJ (by rw [hlen, bT]; simp; omega)
  have e4 : (decide ((0 : Int) <= ((ns.length : Nat) : Int))) = true := aJ (by omega)
  have e5 : ∀ d : aq, (decide (((ns.length : Nat) : Int) < (List.length (mk ns (fun _ => 1) ++ [d]) : Int))) = true := fun d => aJ (by simp [hlen]; omega)
  have e6 : ∀ d : aq, List.set (mk ns (fun _ => 1) ++ [d]) ns.length (true, false, 1, n, ()) = mk (ns ++ [n]) (fun _ => 1) := fun d => by
    rw [<- av1, <- hlen, List.set_append_right _ _ (Nat.le_refl _)]
    simp
  have h2 := avM (ns := ns ++ [n]) (n := n) (ks := ks) (c := (ns.length : Int)) hk (fun k hk => by have := hr k hk; simp; omega) hn hl
  simp only [sV, avK hk hr hl, avL (show ns.length <= 1000 by omega), e1, cond_false, ap2 (show (mk ns (fun _ => 1)).length <= 100000 by omega), e2, e3, cond_true, acE, e4, e5, Bool.and_self, Int.toNat_natCast, e6, h2]
theorem avs {ns : List api_Node} {r : Nat -> Int} {k : Nat} (hk : k < ns.length) (hr : r k = 2) :
    aa2 ([(k : Int)], [], mk ns r, ()) = some (.inl ([], mk ns (fun j => if j = k then 1 else r j), ())) := by
  obtain ⟨z, h1, h2⟩ := bQ (b := rP) (fun i (q : List Int × List aq) => (q.1, [], q.2, ())) 1 (fun i q => (i = 0 /\ q = ([(k : Int)], mk ns r)) \/ (i = 1 /\ q = ([], mk ns (fun j => if j = k then 1 else r j))))
    (fun z => z = .inl ([], mk ns (fun j => if j = k then 1 else r j), ())) (by omega)
    (fun i hi q hq => by
      left
      obtain ⟨rfl, rfl⟩ := hq.resolve_right (by omega)
      refine ⟨_, .inr ⟨rfl, rfl⟩, ?_⟩
      have hk' : k < (mk ns r).length := by rw [oI]; exact hk
      have e1 := dzz k
      have e2 : ∀ r', (decide ((k : Int) < (List.length (mk ns r') : Int))) = true := fun r' => aJ (by rw [oI]; omega)
      have e3 : IntKind.i64.wrap ((2 : Int) - 1) = 1 := by rw [cI (by omega)]; omega
      have e4 : List.drop (Int.toNat (1 : Int)) (List.take (Int.toNat (List.length [(k : Int)] : Int)) [(k : Int)]) = [] := rfl
      have e5 : List.getD [(k : Int)] 0 0 = (k : Int) := rfl
      have e6 : (decide ((((List.length [(k : Int)]) : Int) : Int) > (0 : Int))) = true := rfl
      have e7 : (decide (((0 : Int) : Int) < (List.length [(k : Int)] : Int))) = true := rfl
      have e8 : (decide (((1 : Int) : Int) <= (List.length [(k : Int)] : Int)) && decide (((List.length [(k : Int)] : Int) : Int) <= (List.length [(k : Int)] : Int))) = true := rfl
      have e9 : (decide ((1 : Int) = (0 : Int))) = false := rfl
      simp only [rP, e6, e7, e8, cond_true, e4, e5, arO hk', rp, Bool.not_true, cond_false, e1, e2, Bool.and_self, Int.toNat_natCast, amu hk, hr, e3, auJ hk, if_true, e9]
      rfl)
    (fun q hq => by
      obtain ⟨-, rfl⟩ := hq.resolve_left (by omega)
      have e6 : (decide ((((List.length ([] : List Int)) : Int) : Int) > (0 : Int))) = false := rfl
      exact ⟨_, rfl, by simp only [rP, e6, cond_false]⟩) ([(k : Int)], mk ns r) (.inl ⟨rfl, rfl⟩)
  subst h2
  exact h1
theorem avt {ns : List api_Node} {r : Nat -> Int} {k : Nat} (hk : k < ns.length) (hr : r k = 2) (hl : ns.length <= 1000) :
    uM ((mk ns r, ()), (k : Int), ()) = some ((mk ns (fun j => if j = k then 1 else r j), ()), 0, ()) := by
  have hk' : k < (mk ns r).length := by rw [oI]; exact hk
  simp only [uM, aiy hk', rp, Bool.not_true, cond_false, ap2 (show (mk ns r).length <= 100000 by rw [oI]; omega), avs hk hr]
def agu (s : aa) (k : List UInt8) : Bool := !(Op.bytesLess k s.1) && (decide (s.2.1 = []) || Op.bytesLess k s.2.1)
theorem au3 (s : aa) (k : List UInt8) : ab8 (s, k, ()) = some (agu s k, ()) := by
  simp only [ab8, agu]
  cases h1 : Op.bytesLess k s.1
  · cases h2 : decide (s.2.1 = [])
    · simp [h2]
    · simp [h2]
  · simp
def inS (s : aa) (t : List ae) : List ae := t.filter fun p => agu s p.1
theorem aql (s : aa) (t : List ae) : (inS s t).length <= t.length := List.length_filter_le _ _
theorem auT (t : List ae) (s : aa) (hl : t.length <= 1000000) : zC (t, s, ()) = some (inS s t, ()) := by
  obtain ⟨z, h1, h2⟩ := bQ (b := qa) (fun i (out : List ae) => (t, (i : Int), s, out, ())) t.length (fun i out => out = inS s (t.take i)) (fun z => z = .inl (inS s t, ())) (by omega)
    (fun i hi out ho => by
      left
      subst ho
      refine ⟨_, rfl, ?_⟩
      have e1 := dlt (i := i) (l := t) (by omega)
      have e2 := dzz i
      have e3 := wr1 i (by omega)
      have e4 : ∀ p : ae, (decide ((List.length (inS s (t.take i)) + List.length ([p] : List (ae))) * 40 <= am)) = true := fun p => aJ (by
        have := aql s (t.take i)
        rw [bT]
        simp at this ⊢
        omega)
      have e5 : inS s (t.take (i + 1)) = inS s (t.take i) ++ (bif agu s t[i].1 then [t[i]] else []) := by
        rw [uS hi]
        unfold inS
        rw [List.filter_append]
        cases h : agu s t[i].1 <;> simp [h]
      rw [e5]
      simp only [qa, e1, e2, cond_true, Bool.and_self, Int.toNat_natCast, aX hi, au3]
      cases h : agu s t[i].1
      · simp only [cond_false, e3, List.append_nil]
      · simp only [cond_true, e3, e4])
    (fun out ho => by
      subst ho
      have e1 := dnl t
      exact ⟨_, rfl, by simp only [qa, e1, cond_false, List.take_length]⟩) [] rfl
  subst h2
  have h1' : yN (t, 0, s, [], ()) = some (.inl (inS s t, ())) := h1
  simp only [zC, h1']
def ain (p : ae) (t : List ae) : List ae := t.filter fun x => !decide (x.1 = p.1)
def ins (p : ae) : List ae -> List ae
  | [] => [p]
  | x :: t => bif Op.bytesLess x.1 p.1 then x :: ins p t else p :: ain p (x :: t)
abbrev awh := (Bool × ae × List ae × Unit) ⊕ Unit
def auc (p : ae) (s : Bool × List ae) (x : ae) : (Bool × List ae) ⊕ awh :=
  let i := s.1 || !(Op.bytesLess x.1 p.1)
  let o := bif !s.1 && !(Op.bytesLess x.1 p.1) then s.2 ++ [p] else s.2
  .inl (i, bif !decide (x.1 = p.1) then o ++ [x] else o)
def aub (p : ae) (s : Bool × List ae) : awh := .inl (s.1, p, s.2, ())
theorem apF (p : ae) : ∀ (t out : List ae), anX (auc p) (aub p) t (true, out) = .inl (true, p, out ++ ain p t, ())
  | [], out => by simp [anX, ain, aub]
  | x :: t, out => by
    simp only [anX, auc, Bool.true_or, Bool.not_true, Bool.false_and, cond_false]
    rw [apF p t]
    by_cases h : x.1 = p.1 <;> simp [ain, h]
theorem an1 (p : ae) : ∀ (t out : List ae), ∃ b o, anX (auc p) (aub p) t (false, out) = .inl (b, p, o, ()) /\ (bif b then o else o ++ [p]) = out ++ ins p t
  | [], out => ⟨false, out, rfl, rfl⟩
  | x :: t, out => by
    simp only [anX, auc, Bool.false_or, Bool.not_false, Bool.true_and]
    cases h : Op.bytesLess x.1 p.1
    · simp only [Bool.not_false, cond_true]
      rw [apF]
      refine ⟨_, _, rfl, ?_⟩
      have e : ins p (x :: t) = p :: ain p (x :: t) := by simp only [ins, h, cond_false]
      rw [e]
      by_cases h2 : x.1 = p.1 <;> simp [ain, h2]
    · have h2 : x.1 ≠ p.1 := avN h
      simp only [Bool.not_true, cond_false, h2, decide_false, Bool.not_false, cond_true]
      obtain ⟨b, o, e1, e2⟩ := an1 p t (out ++ [x])
      refine ⟨b, o, e1, ?_⟩
      rw [e2]
      simp [ins, h]
theorem asO (p : ae) (t : List ae) : (ain p t).length <= t.length := List.length_filter_le _ _
theorem aqo (p : ae) : ∀ t, (ins p t).length <= t.length + 1
  | [] => by simp [ins]
  | x :: t => by
    have h1 := aqo p t
    have h2 := asO p (x :: t)
    cases h : Op.bytesLess x.1 p.1 <;> simp [ins, h] at h2 ⊢ <;> omega
theorem auS (t : List ae) (p : ae) (hl : t.length < 1000000) : agl (t, p, ()) = some (ins p t, ()) := by
  have hloop : acB (t, false, (0 : Int), p, ([] : List ae), ()) = some (anX (auc p) (aub p) t (false, [])) := by
    have := auF (b := tP) (fun I (s : Bool × List ae) => (t, s.1, (I : Int), p, s.2, ())) (auc p) (aub p) t (fun I s => s.2.length <= I + (if s.1 then 1 else 0)) (by omega) (fun I h s hs => by
        obtain ⟨i, out⟩ := s
        have ho : out.length <= I + 1 := by simp only at hs; split at hs <;> omega
        left
        refine ⟨_, rfl, ?_, ?_⟩
        · cases i <;> cases hb : Op.bytesLess t[I].1 p.1 <;> by_cases hk : t[I].1 = p.1 <;> simp [hb, hk] at hs ⊢ <;> omega
        · simp -implicitDefEqProofs (disch := omega) only [tP, wz, w8, aJ, bu, cI, aX, cond_true, cond_false, Bool.and_self, Int.toNat_natCast, bT, List.length_cons, List.length_nil, List.length_append, Int.natCast_add, Int.cast_ofNat_Int]
          cases i <;> cases hb : Op.bytesLess t[I].1 p.1 <;> by_cases hk : t[I].1 = p.1 <;> simp -implicitDefEqProofs (disch := omega) [hb, hk, aJ]) (fun s hs => by
        unfold tP
        simp -implicitDefEqProofs (disch := omega) only [aJ, bu, cond_true, cond_false, aub]) (false, []) (by simp)
    exact this
  obtain ⟨b, o, e1, e2⟩ := an1 p t []
  unfold agl
  simp only [hloop, e1]
  simp only [List.nil_append] at e2
  have hlen := aqo p t
  cases b
  · simp only [cond_false] at e2
    have : o.length + 1 <= t.length + 1 := by rw [<- e2] at hlen; simpa using hlen
    simp -implicitDefEqProofs (disch := omega) only [Bool.not_false, cond_true, aJ, bT, List.length_cons, List.length_nil, e2]
  · simp only [cond_true] at e2
    simp only [Bool.not_true, cond_false, e2]
def yd (n : Int) : List UInt8 := ((xq (n, ())).map (·.1)).getD []
def ar0 (n : Nat) : Bool := match xq ((n : Int), ()) with
  | some (k, _) => decide (k.length <= 11) && decide (1 <= k.length)
  | none => false
theorem atT : ∀ n : Fin 256, ar0 n.val = true := by decide +kernel
theorem ani (n : Int) (h0 : 0 <= n) (h1 : n < 256) : xq (n, ()) = some (yd n, ()) /\ (yd n).length <= 11 /\ 1 <= (yd n).length := by
  obtain ⟨m, rfl⟩ := Int.eq_ofNat_of_zero_le h0
  have := atT ⟨m, by omega⟩
  unfold ar0 at this
  unfold yd
  simp only at this
  cases h : xq ((m : Int), ()) with
  | none => simp [h] at this
  | some x =>
    obtain ⟨k, u⟩ := x
    simp [h] at this
    simp
    omega
def avk (n : Int) : List UInt8 := List.getD [[], [118], [119, 120], [120, 121, 122]] (n % 4).toNat []
def wx (x : aP) : ae := (yd x.1, avk x.2.1, x.2.2.1 % 4, ())
def raw24 (x : aP) : Prop := (0 <= x.1 /\ x.1 < 256) /\ (0 <= x.2.1 /\ x.2.1 < 256) /\ (0 <= x.2.2.1 /\ x.2.2.1 < 256)
theorem atZ (x : aP) (h : raw24 x) : acA (x, ()) = some (wx x, ()) := by
  obtain ⟨a, b, c, u⟩ := x
  obtain ⟨h1, h2, h3⟩ := h
  simp only at h1 h2 h3
  obtain ⟨k1, k2, k3⟩ := ani a h1.1 h1.2
  have e1 : Int.tmod b 4 = b % 4 := Int.tmod_eq_emod_of_nonneg h2.1
  have e2 : Int.tmod c 4 = c % 4 := Int.tmod_eq_emod_of_nonneg h3.1
  unfold acA
  simp -implicitDefEqProofs (disch := omega) only [k1, e1, e2, cI, aJ, Bool.and_self, cond_true, List.length_cons, List.length_nil]
  rfl
def zO (l : List aP) : List ae := l.foldl (fun t x => ins (wx x) t) []
theorem akM (l : List aP) : (zO l).length <= l.length := by
  have key : ∀ (l : List aP) (t : List ae), (l.foldl (fun t x => ins (wx x) t) t).length <= t.length + l.length := by
    intro l
    induction l with
    | nil => intro t; simp
    | cons x l ih =>
      intro t
      have h1 := ih (ins (wx x) t)
      have h2 := aqo (wx x) t
      simp only [List.foldl_cons, List.length_cons]
      omega
  have := key l []
  simp only [List.length_nil, Nat.zero_add] at this
  exact this
theorem atU (l : List aP) (h : ∀ x ∈ l, raw24 x) (hl : l.length < 1000000000000000000) : yM (l, ()) = some (zO (l.take 40), ()) := by
  have hloop : vg (l, (0 : Int), ([] : List ae), ()) = some (.inl (zO (l.take 40), ())) := by
    obtain ⟨r, h1, h2⟩ := bQ (b := o8) (fun I (t : List ae) => (l, (I : Int), t, ())) (min l.length 40) (fun I t => t = zO (l.take I)) (fun r => r = .inl (zO (l.take 40), ())) (by omega) (fun I hI t ht => by
        left
        have hI2 : I < l.length := by omega
        refine ⟨ins (wx l[I]) t, ?_, ?_⟩
        · show _ = zO _
          rw [List.take_add_one, List.getElem?_eq_getElem hI2, ht]
          simp only [zO, Option.toList_some, List.foldl_append, List.foldl_cons, List.foldl_nil]
        · have hlen : t.length <= 40 := by
            rw [ht]
            have := akM (l.take I)
            simp only [List.length_take] at this
            omega
          have hp := atZ l[I] (h _ (List.getElem_mem _))
          have hq := auS t (wx l[I]) (by omega)
          simp -implicitDefEqProofs (disch := omega) only [o8, mW, aJ, bu, cI, aX, cond_true, cond_false, Bool.and_self, Int.toNat_natCast, hp, hq, Int.natCast_add, Int.cast_ofNat_Int]) (fun t ht => by
        refine ⟨.inl (t, ()), ?_, ?_⟩
        · simp only [Sum.inl.injEq, Prod.mk.injEq, and_true]
          rw [ht]
          congr 1
          rcases Nat.le_total l.length 40 with h | h
          · rw [Nat.min_eq_left h, List.take_of_length_le h, List.take_length]
          · rw [Nat.min_eq_right h]
        · rcases Nat.lt_or_ge (min l.length 40) l.length with h | h
          · simp -implicitDefEqProofs (disch := omega) only [o8, mW, aJ, bu, cond_true, cond_false]
          · simp -implicitDefEqProofs (disch := omega) only [o8, mW, aJ, bu, cond_true, cond_false]) [] (by simp [zO])
    have h3 : vg (l, (0 : Int), [], ()) = some r := h1
    rw [h3, h2]
  unfold yM
  simp only [hloop]
def PlOK (k : List UInt8) : Prop := (nD (k, ())).isSome = true
structure MOK (m : ag) : Prop where
  kind : 1 <= m.1 /\ m.1 <= 6
  key : m.1 = 1 \/ m.1 = 2 -> PlOK m.2.1
  alike : m.1 = 4 \/ m.1 = 5 -> (ref10_Alike (m.2.2.2.2.1, m.2.2.2.2.2.1, ())).isSome = true
theorem asx {p : ae} (h : PlOK p.1) : ∃ c, qM (p, ()) = some c := by
  obtain ⟨r, hr⟩ := Option.isSome_iff_exists.1 h
  simp only [qM, hr]
  cases (!decide ((r.2.1 : Int) = (0 : Int)))
  · cases decide ((r.1.2.1 : Int) = (1 : Int))
    · cases decide ((r.1.2.1 : Int) = (2 : Int))
      · cases decide ((r.1.2.1 : Int) = (3 : Int)) <;> exact ⟨_, rfl⟩
      · exact ⟨_, rfl⟩
    · exact ⟨_, rfl⟩
  · exact ⟨_, rfl⟩
theorem auo (l : List ae) (h : ∀ p ∈ l, PlOK p.1) (hl : l.length <= 1000000) : ∃ c, sU (l, ()) = some c := by
  obtain ⟨z, h1, h2⟩ := bQ (b := iT) (fun i (q : Int × Int) => (l, (i : Int), 0, 0, q.1, q.2, ())) l.length (fun _ _ => True) (fun z => ∃ x, z = .inl x) (by omega)
    (fun i hi q _ => by
      left
      obtain ⟨c, hc⟩ := asx (h l[i] (List.getElem_mem hi))
      have e1 := dlt (i := i) (l := l) (by omega)
      have e2 := dzz i
      have e3 := wr1 i (by omega)
      exact ⟨(IntKind.i64.wrap (q.1 + c.1.1), IntKind.i64.wrap (q.2 + c.1.2.1)), trivial, by simp only [iT, e1, e2, cond_true, Bool.and_self, Int.toNat_natCast, aX hi, hc, e3]⟩)
    (fun q _ => by
      have e1 := dnl l
      exact ⟨_, ⟨_, rfl⟩, by simp only [iT, e1, cond_false]; rfl⟩) (0, 0) trivial
  obtain ⟨x, rfl⟩ := h2
  have h1' : tO (l, 0, 0, 0, 0, 0, ()) = some (.inl x) := h1
  exact ⟨_, by simp only [sU, h1']; rfl⟩
theorem ap4 {k : List UInt8} (h : PlOK k) : ∃ c, ko (k, ()) = some c := by
  obtain ⟨r, hr⟩ := Option.isSome_iff_exists.1 h
  simp only [ko, hr]
  cases decide ((r.2.1 : Int) = (0 : Int)) <;> exact ⟨_, rfl⟩
theorem asw (s : api_Sum) {m : ag} (h : MOK m) : ∃ c, cu (s, m, ()) = some c := by
  simp only [cu, kc, nE]
  by_cases h1 : m.1 = 1
  · obtain ⟨e, he⟩ := ap4 (h.key (.inl h1))
    simp only [aJ h1, cond_true, he]
    cases e.1 <;> exact ⟨_, rfl⟩
  · by_cases h2 : m.1 = 2
    · obtain ⟨e, he⟩ := ap4 (h.key (.inr h2))
      simp only [bu h1, cond_false, aJ h2, cond_true, he]
      cases e.1 <;> exact ⟨_, rfl⟩
    · by_cases h6 : m.1 = 6
      · simp only [bu h1, bu h2, cond_false, aJ h6, cond_true]
        exact ⟨_, rfl⟩
      · by_cases h3 : m.1 = 3
        · simp only [bu h1, bu h2, bu h6, cond_false, aJ h3, cond_true]
          exact ⟨_, rfl⟩
        · obtain ⟨a, ha⟩ := Option.isSome_iff_exists.1 (h.alike (by have := h.kind; omega))
          simp only [bu h1, bu h2, bu h6, bu h3, cond_false, ha]
          cases a.1
          · exact ⟨_, rfl⟩
          · cases decide ((m.1 : Int) = (5 : Int)) <;> exact ⟨_, rfl⟩
theorem ave {n : api_Node} (h0 : n.2.2.1 = []) (h : ∀ p ∈ n.1, PlOK p.1) (hl : n.1.length <= 1000000) : ∃ s, jt (n, ()) = some s := by
  obtain ⟨c, hc⟩ := auo n.1 h hl
  have e1 : (decide ((((List.length n.2.2.1) : Int) : Int) = (0 : Int))) = true := by rw [h0]; rfl
  simp only [jt, e1, cond_true, hc, zD]
  exact ⟨_, rfl⟩
theorem auk {n : api_Node} (h0 : n.2.2.1 ≠ []) (hs : n.2.2.2.1.length <= 1000000) (h : ∀ m ∈ n.2.2.2.2.1, MOK m) (hl : n.2.2.2.2.1.length <= 1000000) : ∃ s, jt (n, ()) = some s := by
  have e0 : (decide ((((List.length n.2.2.1) : Int) : Int) = (0 : Int))) = false := bu (by
    have := List.length_pos_iff.2 h0
    omega)
  obtain ⟨z, h1, x, rfl⟩ := bQ (b := mf) (fun i (q : api_Sum) => ((i : Int), n, 0, 0, 0, 0, q, ())) n.2.2.2.1.length (fun _ _ => True) (fun z => ∃ x : api_Sum, z = .inl (n, 0, 0, 0, 0, x, ())) (by omega)
    (fun i hi q _ => by
      left
      have e1 : (decide (((i : Nat) : Int) < ((List.length n.2.2.2.1) : Int))) = true := aJ (by omega)
      have e2 := dzz i
      have e3 := wr1 i (by omega)
      simp only [mf, e1, e2, cond_true, Bool.and_self, Int.toNat_natCast, aX hi, e3, yO]
      exact ⟨_, trivial, rfl⟩)
    (fun q _ => by
      have e1 : (decide (((n.2.2.2.1.length : Nat) : Int) < ((List.length n.2.2.2.1) : Int))) = false := bu (by omega)
      exact ⟨_, ⟨q, rfl⟩, by simp only [mf, e1, cond_false]⟩) (((0 : Int), ((0 : Int), ())), (((0 : Int), ((0 : Int), ())), ())) trivial
  have h1' : xe (0, n, 0, 0, 0, 0, (((0 : Int), ((0 : Int), ())), (((0 : Int), ((0 : Int), ())), ())), ()) = some (.inl (n, 0, 0, 0, 0, x, ())) := h1
  obtain ⟨z, h2, y, rfl⟩ := bQ (b := mg) (fun i (q : api_Sum) => ((i : Int), n, 0, 0, 0, 0, q, ())) n.2.2.2.2.1.length (fun _ _ => True) (fun z => ∃ x, z = .inl x) (by omega)
    (fun i hi q _ => by
      left
      obtain ⟨c, hc⟩ := asw q (h n.2.2.2.2.1[i] (List.getElem_mem hi))
      have e1 : (decide (((i : Nat) : Int) < ((List.length n.2.2.2.2.1) : Int))) = true := aJ (by omega)
      have e2 := dzz i
      have e3 := wr1 i (by omega)
      exact ⟨c.1, trivial, by simp only [mg, e1, e2, cond_true, Bool.and_self, Int.toNat_natCast, aX hi, hc, e3]⟩)
    (fun q _ => by
      have e1 : (decide (((n.2.2.2.2.1.length : Nat) : Int) < ((List.length n.2.2.2.2.1) : Int))) = false := bu (by omega)
      exact ⟨_, ⟨_, rfl⟩, by simp only [mg, e1, cond_false]; rfl⟩) x trivial
  have h2' : xf (0, n, 0, 0, 0, 0, x, ()) = some (.inl y) := h2
  exact ⟨_, by simp only [jt, e0, cond_false, h1', h2']; rfl⟩
def six : List (List UInt8) := [[97, 47], [98, 47], [97, 47, 98, 47], [99, 47], [100, 47], []]
def spanOK (s : aa) : Prop := s.2.1 = [] \/ Op.bytesLess s.1 s.2.1 = true
def bgn (k p : List UInt8) : Bool := decide (p.length <= k.length) && decide (k.take p.length = p)
theorem at6 (k p : List UInt8) : tN (k, p, ()) = some (bgn k p, ()) := by
  unfold tN bgn
  by_cases h : p.length <= k.length
  · have c1 : ((k.length : Int) >= (p.length : Int)) := by omega
    have c2 : ((0 : Int) <= (p.length : Int)) := by omega
    have c3 : ((p.length : Int) <= (k.length : Int)) := by omega
    simp only [c1, c2, c3, aJ, cond_true, Bool.and_self, Int.toNat_natCast, List.drop_zero, h, Bool.true_and]
  · have c1 : ¬ ((k.length : Int) >= (p.length : Int)) := by omega
    simp only [c1, bu h, bu, cond_false, not_false_eq_true, Bool.false_and]
def air (p : List UInt8) : aa := (p, (if p = [] then [] else p.dropLast ++ [48]), ())
theorem ago : ∀ p ∈ six, eG (p, ()) = some (air p, ()) /\ jZ (p, ()) = some (air p, ()) /\ (p = [] \/ p = p.dropLast ++ [47]) := by
  have h : six.all (fun p => decide (eG (p, ()) = some (air p, ())) && (decide (jZ (p, ()) = some (air p, ())) && (decide (p = []) || decide (p = p.dropLast ++ [47])))) = true := by kernel_rfl
  intro p hp
  have h2 := List.all_eq_true.1 h p hp
  simp only [Bool.and_eq_true, Bool.or_eq_true, decide_eq_true_eq] at h2
  exact h2
theorem awe {p : List UInt8} (h : p = [] \/ p = p.dropLast ++ [47]) : spanOK (air p) := by
  unfold spanOK air
  by_cases hp : p = []
  · left; simp [hp]
  · right
    have h := h.resolve_left hp
    simp only [if_neg hp]
    have : ∀ q : List UInt8, Op.bytesLess (q ++ [47]) (q ++ [48]) = true := by
      intro q
      induction q with
      | nil => decide
      | cons a q ih => simp [Op.bytesLess, ih]
    conv => lhs; arg 1; rw [h]
    exact this _
def keys20 : List (List UInt8) := [[97, 47], [98, 47], [97, 47, 98, 47], [99, 47]].flatMap fun p => [[1], [2, 0, 0], [2, 0, 1], [2, 0, 2], [3, 120]].map fun s => p ++ s
theorem ar1 (n : Int) (h : 0 <= n /\ n < 256) : ∃ k ∈ keys20, xr (n, ()) = some (k, ()) := by
  obtain ⟨k, rfl⟩ := Int.eq_ofNat_of_zero_le h.1
  have hk : k < 256 := by omega
  have hc : (List.range 256).all (fun k => match xr ((k : Int), ()) with | some (p, ()) => keys20.contains p | none => false) = true := by kernel_rfl
  have := List.all_eq_true.1 hc k (List.mem_range.2 hk)
  cases hp : xr ((k : Int), ()) with
  | none => rw [hp] at this; cases this
  | some r =>
    obtain ⟨p, u⟩ := r
    rw [hp] at this
    exact ⟨p, by simpa using this, rfl⟩
theorem atb (n : Int) (h : 0 <= n /\ n < 256) : ∃ v : List UInt8, v.length <= 10 /\ qb (n, ()) = some (v, ()) := by
  obtain ⟨k, rfl⟩ := Int.eq_ofNat_of_zero_le h.1
  have hk : k < 256 := by omega
  have hc : (List.range 256).all (fun k => match qb ((k : Int), ()) with | some (p, ()) => decide (p.length <= 10) | none => false) = true := by kernel_rfl
  have := List.all_eq_true.1 hc k (List.mem_range.2 hk)
  cases hp : qb ((k : Int), ()) with
  | none => rw [hp] at this; cases this
  | some r =>
    obtain ⟨p, u⟩ := r
    rw [hp] at this
    exact ⟨p, by simpa using this, rfl⟩
def paths5 : List (List UInt8) := [[97, 47], [98, 47], [97, 47, 98, 47], [99, 47], [100, 47]]
theorem ant (n : Int) (h : 0 <= n /\ n < 256) : ∃ p ∈ paths5, mB (n, ()) = some (p, ()) := by
  obtain ⟨k, rfl⟩ := Int.eq_ofNat_of_zero_le h.1
  have hk : k < 256 := by omega
  have hc : (List.range 256).all (fun k => match mB ((k : Int), ()) with | some (p, ()) => paths5.contains p | none => false) = true := by kernel_rfl
  have := List.all_eq_true.1 hc k (List.mem_range.2 hk)
  cases hp : mB ((k : Int), ()) with
  | none => rw [hp] at this; cases this
  | some r =>
    obtain ⟨p, u⟩ := r
    rw [hp] at this
    exact ⟨p, by simpa using this, rfl⟩
theorem xn : ∀ p ∈ paths5, p ∈ six := by
  intro p hp
  simp only [paths5, six, List.mem_cons, List.mem_nil_iff, or_false] at hp ⊢
  rcases hp with h | h | h | h | h <;> simp [h]
def amj (a b : List UInt8) : List UInt8 := bif bgn a b || bgn b a then (bif decide (a = [100, 47]) then [99, 47] else [100, 47]) else b
theorem av7 : ∀ a ∈ paths5, ∀ b ∈ paths5, amj a b ∈ paths5 /\ bgn a (amj a b) = false /\ bgn (amj a b) a = false := by
  have h : paths5.all (fun a => paths5.all fun b => paths5.contains (amj a b) && (!bgn a (amj a b) && !bgn (amj a b) a)) = true := by kernel_rfl
  intro a ha b hb
  have := List.all_eq_true.1 (List.all_eq_true.1 h a ha) b hb
  simpa using this
abbrev R5 : Type := (Int) × (Int) × (Int) × (Int) × (Int) × (Int) × Unit
def gJ (a : Int) (k v f t : List UInt8) (s : aa) (n : Int) : ag :=
  bif decide (a = 0) then (1, k, v, ([], [], ()), [], [], n, ())
  else bif decide (a = 1) then (2, k, [], ([], [], ()), [], [], 0, ())
  else bif decide (a = 2) then (3, [], [], s, [], [], 0, ())
  else bif decide (a = 3) then (4, [], [], ([], [], ()), f, t, 0, ())
  else bif decide (a = 4) then (5, [], [], ([], [], ()), f, t, 0, ())
  else (6, [], [], s, [], [], n, ())
theorem avP (k f t v : List UInt8) (x : R5) (s : aa) (hv : qb (x.2.2.1, ()) = some (v, ())) :
    gc (k, f, t, x, (0 : Int), [], [], [], [], [], [], (0 : Int), s, ()) = some (.inl (gJ (Int.tmod x.1 6) k v f t s (IntKind.i64.wrap (Int.tmod x.2.2.2.2.2.1 8)))) := by
  unfold gc gJ
  simp only [hv]
  cases decide (Int.tmod x.1 6 = 0) <;> cases decide (Int.tmod x.1 6 = 1) <;> cases decide (Int.tmod x.1 6 = 2) <;> cases decide (Int.tmod x.1 6 = 3) <;> cases decide (Int.tmod x.1 6 = 4) <;> rfl
theorem avO (k f t v : List UInt8) (x : R5) (s : aa) (hv : qb (x.2.2.1, ()) = some (v, ())) (hf : mB (x.2.1, ()) = some (f, ())) (ht : mB (x.2.2.2.1, ()) = some (t, ())) :
    cF (k, x, (0 : Int), [], [], [], [], [], [], (0 : Int), s, ()) = some (.inl (gJ (Int.tmod x.1 6) k v f (amj f t) s (IntKind.i64.wrap (Int.tmod x.2.2.2.2.2.1 8)))) := by
  unfold cF dI amj
  simp only [hf, ht, at6]
  cases bgn f t <;> cases bgn t f <;> cases decide (f = [100, 47]) <;> simp only [Bool.not_true, Bool.not_false, cond_true, cond_false, Bool.or_true, Bool.or_false, Bool.true_or, Bool.false_or, avP k _ _ v x s hv]
structure MsgOK (m : ag) : Prop where
  kind : m.1 = 1 \/ m.1 = 2 \/ m.1 = 3 \/ m.1 = 4 \/ m.1 = 5 \/ m.1 = 6
  key : m.1 = 1 \/ m.1 = 2 -> m.2.1 ∈ keys20
  val : m.1 = 1 -> m.2.2.1.length <= 10
  span : m.1 = 3 \/ m.1 = 6 -> spanOK m.2.2.2.1
  from_ : m.1 = 4 \/ m.1 = 5 -> m.2.2.2.2.1 ∈ paths5
  to_ : m.1 = 4 \/ m.1 = 5 -> m.2.2.2.2.2.1 ∈ paths5
  apart : m.1 = 4 \/ m.1 = 5 -> bgn m.2.2.2.2.1 m.2.2.2.2.2.1 = false /\ bgn m.2.2.2.2.2.1 m.2.2.2.2.1 = false
theorem asD (a : Int) (k v f t : List UInt8) (s : aa) (n : Int) (hk : k ∈ keys20) (hv : v.length <= 10) (hf : f ∈ paths5) (ht : t ∈ paths5) (hs : spanOK s) (h1 : bgn f t = false) (h2 : bgn t f = false) : MsgOK (gJ a k v f t s n) := by
  unfold gJ
  cases decide (a = 0) with
  | true => exact ⟨by simp, fun _ => hk, fun _ => hv, (by simp), (by simp), (by simp), (by simp)⟩
  | false =>
    cases decide (a = 1) with
    | true => exact ⟨by simp, fun _ => hk, (by simp), (by simp), (by simp), (by simp), (by simp)⟩
    | false =>
      cases decide (a = 2) with
      | true => exact ⟨by simp, (by simp), (by simp), fun _ => hs, (by simp), (by simp), (by simp)⟩
      | false =>
        cases decide (a = 3) with
        | true => exact ⟨by simp, (by simp), (by simp), (by simp), fun _ => hf, fun _ => ht, fun _ => ⟨h1, h2⟩⟩
        | false =>
          cases decide (a = 4) with
          | true => exact ⟨by simp, (by simp), (by simp), (by simp), fun _ => hf, fun _ => ht, fun _ => ⟨h1, h2⟩⟩
          | false => exact ⟨by simp, (by simp), (by simp), fun _ => hs, (by simp), (by simp), (by simp)⟩
def raw6 (x : R5) : Prop := (0 <= x.1 /\ x.1 < 256) /\ (0 <= x.2.1 /\ x.2.1 < 256) /\ (0 <= x.2.2.1 /\ x.2.2.1 < 256) /\ (0 <= x.2.2.2.1 /\ x.2.2.2.1 < 256)
theorem awc (k : List UInt8) : Op.bytesLess k (k ++ [0]) = true := by
  induction k with
  | nil => rfl
  | cons a k ih => simp [Op.bytesLess, ih]
theorem asQ : ∀ k ∈ keys20, PlOK k := by
  have h : keys20.all (fun k => (nD (k, ())).isSome) = true := by kernel_rfl
  exact fun k hk => List.all_eq_true.1 h k hk
theorem arf : ∀ a ∈ paths5, ∀ b ∈ paths5, (ref10_Alike (a, b, ())).isSome = true := by
  have h : paths5.all (fun a => paths5.all fun b => (ref10_Alike (a, b, ())).isSome) = true := by kernel_rfl
  exact fun a ha b hb => List.all_eq_true.1 (List.all_eq_true.1 h a ha) b hb
theorem MsgOK.mok {m : ag} (h : MsgOK m) : MOK m :=
  ⟨by have := h.kind; omega, fun hk => asQ _ (h.key hk), fun hk => arf _ (h.from_ hk) _ (h.to_ hk)⟩
theorem ar4 (a b : List UInt8) : ∃ r, sw (a, b, ()) = some (r, ()) := by
  simp only [sw]
  cases (!decide (a = ([] : List UInt8)))
  · exact ⟨_, rfl⟩
  · cases (!decide (b = ([] : List UInt8))) <;> exact ⟨_, rfl⟩
theorem abk (s : aa) : ∃ r, kj (s, ()) = some (r, ()) := by
  simp only [kj]
  cases (!decide (s.2.1 = ([] : List UInt8))) <;> exact ⟨_, rfl⟩
theorem ar8 (a b c d : List UInt8) : ∃ r, vf (a, b, c, d, ()) = some (r, ()) := by
  obtain ⟨e, he⟩ := abk (c, d, ())
  simp only [vf, he, aiw]
  cases e <;> exact ⟨_, rfl⟩
theorem ar9 (a b : aa) : ∃ r, yK (a, b, ()) = some (r, ()) := by
  obtain ⟨l, hl⟩ := ar4 b.2.1 a.2.1
  simp only [yK, hl]
  cases l <;> simp only [cond_true, cond_false] <;> exact ar8 _ _ _ _
theorem amK (a b : aa) : ∃ r, jY (a, b, ()) = some (r, ()) := by
  obtain ⟨e, he⟩ := abk b
  obtain ⟨f, hf⟩ := abk a
  obtain ⟨l, hl⟩ := ar4 a.2.1 b.2.1
  simp only [jY, he, hf, hl]
  cases e <;> cases f <;> cases (Op.bytesLess a.1 b.1 || decide ((a.1 : List UInt8) = b.1)) <;> exact ⟨_, rfl⟩
theorem aua (s : aa) (ps : List (List UInt8)) (hl : ps.length <= 100000) : ∃ l, sT (s, ps, ()) = some (l, ()) /\ l.length = ps.length + 1 := by
  obtain ⟨z, h1, q, rfl, hq⟩ := bQ (b := pZ) (fun i (q : List UInt8 × List aa) => (ps, q.1, (i : Int), s, q.2, ())) ps.length (fun i q => q.2.length = i) (fun z => ∃ q : List UInt8 × List aa, z = .inl (q.1, s, q.2, ()) /\ q.2.length = ps.length) (by omega)
    (fun i hi q hq => by
      left
      have e1 := dlt (i := i) (l := ps) (by omega)
      have e2 := dzz i
      have e3 := wr1 i (by omega)
      obtain ⟨r, hr⟩ := ar9 s (q.1, (ps[i], ()))
      have e5 : ∀ x : aa, (decide ((List.length q.2 + List.length ([x] : List (aa))) * 32 <= am)) = true := fun x => aJ (by rw [hq, bT]; simp; omega)
      exact ⟨(ps[i], q.2 ++ [r]), by simp [hq], by simp only [pZ, e1, e2, cond_true, Bool.and_self, Int.toNat_natCast, aX hi, hr, e5, e3]⟩)
    (fun q hq => by
      have e1 := dnl ps
      exact ⟨_, ⟨q, rfl, hq⟩, by simp only [pZ, e1, cond_false]⟩) (([] : List UInt8), ([] : List aa)) rfl
  have h1' : yL (ps, [], 0, s, [], ()) = some (.inl (q.1, s, q.2, ())) := h1
  obtain ⟨r, hr⟩ := ar9 s (q.1, (([] : List UInt8), ()))
  have e5 : ∀ x : aa, (decide ((List.length q.2 + List.length ([x] : List (aa))) * 32 <= am)) = true := fun x => aJ (by rw [hq, bT]; simp; omega)
  exact ⟨q.2 ++ [r], by simp only [sT, h1', hr, e5, cond_true], by simp [hq]⟩
theorem yH {p : List UInt8} (h : p ∈ paths5) : ∃ r, jZ (p, ()) = some (r, ()) := ⟨_, (ago p (xn p h)).2.1⟩
theorem atw {k : List UInt8} (h : k ∈ keys20) : ∃ r, qL (k, ()) = some (r, ()) := by
  have hlen : keys20.all (fun k => decide (k.length < 100)) = true := by kernel_rfl
  have := of_decide_eq_true (List.all_eq_true.1 hlen k h)
  have : k.length + ([0] : List UInt8).length <= am := by rw [bT]; simp; omega
  simp only [qL, this, aJ, cond_true]
  exact ⟨_, rfl⟩
theorem aud {m : ag} (h : MsgOK m) : ∃ l, gz (m, ()) = some (l, ()) /\ l.length <= 2 := by
  simp only [gz, gf]
  by_cases h4 : m.1 = 4
  · obtain ⟨r, hr⟩ := yH (h.from_ (.inl h4))
    simp only [aJ h4, cond_true, hr]
    exact ⟨_, rfl, by simp⟩
  · by_cases h5 : m.1 = 5
    · obtain ⟨r, hr⟩ := yH (h.from_ (.inr h5))
      simp only [bu h4, aJ h5, cond_true, cond_false, hr]
      exact ⟨_, rfl, by simp⟩
    · simp only [bu h4, bu h5, cond_false]
      cases decide (m.1 = 6) <;> exact ⟨_, rfl, by simp⟩
theorem atc {m : ag} (h : MsgOK m) : ∃ l, fg (m, ()) = some (l, ()) /\ l.length <= 2 := by
  simp only [fg, fh]
  by_cases h1 : m.1 = 1
  · obtain ⟨r, hr⟩ := atw (h.key (.inl h1))
    simp only [aJ h1, cond_true, hr]
    exact ⟨_, rfl, by simp⟩
  · by_cases h2 : m.1 = 2
    · obtain ⟨r, hr⟩ := atw (h.key (.inr h2))
      simp only [bu h1, aJ h2, cond_true, cond_false, hr]
      exact ⟨_, rfl, by simp⟩
    · by_cases h4 : m.1 = 4
      · obtain ⟨r, hr⟩ := yH (h.from_ (.inl h4))
        obtain ⟨t, ht⟩ := yH (h.to_ (.inl h4))
        simp only [bu h1, bu h2, aJ h4, cond_true, cond_false, hr, ht]
        exact ⟨_, rfl, by simp⟩
      · by_cases h5 : m.1 = 5
        · obtain ⟨t, ht⟩ := yH (h.to_ (.inr h5))
          simp only [bu h1, bu h2, bu h4, aJ h5, cond_true, cond_false, ht]
          exact ⟨_, rfl, by simp⟩
        · simp only [bu h1, bu h2, bu h4, bu h5, cond_false]
          exact ⟨_, rfl, by simp⟩
theorem ar5 (s : aa) (l : List aa) (hl : l.length <= 1000) : ∃ r, vi (0, s, l, ()) = some r := by
  obtain ⟨z, h1, -⟩ := bQ (b := kn) (fun i (_ : Unit) => ((i : Int), s, l, ())) l.length (fun _ _ => True) (fun _ => True) (by omega)
    (fun i hi _ _ => by
      have e1 := dlt (i := i) (l := l) (by omega)
      have e2 := dzz i
      have e3 := wr1 i (by omega)
      obtain ⟨r, hr⟩ := amK s l[i]
      simp only [kn, e1, e2, cond_true, Bool.and_self, Int.toNat_natCast, aX hi, hr, e3]
      cases r
      · exact .inr ⟨_, trivial, rfl⟩
      · exact .inl ⟨(), trivial, rfl⟩)
    (fun _ _ => by
      have e1 := dnl l
      exact ⟨_, trivial, by simp only [kn, e1, cond_false]; rfl⟩) () trivial
  exact ⟨z, h1⟩
theorem auE {m : ag} (h : MsgOK m) (s : aa) : ∃ r, ref08_Lies (m, s, ()) = some (r, ()) := by
  obtain ⟨a, ha, ha2⟩ := aud h
  obtain ⟨b, hb, hb2⟩ := atc h
  obtain ⟨z, hz⟩ := ar5 s (([] ++ a) ++ b) (by simp; omega)
  have e1 : (decide ((List.length ([] : List (aa)) + List.length a) * 32 <= am)) = true := aJ (by rw [bT]; simp; omega)
  have e2 : (decide ((List.length (([] : List (aa)) ++ a) + List.length b) * 32 <= am)) = true := aJ (by rw [bT]; simp; omega)
  simp only [ref08_Lies, ha, hb, e1, e2, cond_true, hz]
  cases z <;> exact ⟨_, rfl⟩
abbrev BR : Type := ((ah) × (List (ae)) × (aa) × (List (List (List UInt8))) × (aA) × Unit) -> Option ((aO) × Unit)
def TreeOK (ns : List api_Node) : Nat -> Nat -> Prop
  | 0, _ => False
  | h + 1, i => ∃ n, ns[i]? = some n /\
      ((h = 0 /\ n.2.2.1 = [] /\ n.1.length <= 1000 /\ ∀ p ∈ n.1, PlOK p.1) \/
       (0 < h /\ ∃ ks : List Nat, n.2.2.1 = kidsI ks /\ ks.length = n.2.1.length + 1 /\ n.2.1.length <= 100 /\ n.2.2.2.1.length <= 1000 /\ n.2.2.2.2.1.length <= 5 /\ (∀ m ∈ n.2.2.2.2.1, MsgOK m) /\ ∀ k ∈ ks, TreeOK ns h k))
theorem TreeOK.app {ns : List api_Node} (l : List api_Node) : ∀ {h i : Nat}, TreeOK ns h i -> TreeOK (ns ++ l) h i
  | 0, _, h => h.elim
  | h + 1, i, ⟨n, hn, hh⟩ => by
    refine ⟨n, ?_, hh.imp id fun ⟨h0, ks, a, b, c, d, e, f, g⟩ => ⟨h0, ks, a, b, c, d, e, f, fun k hk => TreeOK.app l (g k hk)⟩⟩
    rw [List.getElem?_append_left (List.getElem?_eq_some_iff.1 hn).1]
    exact hn
theorem TreeOK.lt {ns : List api_Node} {h i : Nat} (t : TreeOK ns h i) : i < ns.length := by
  cases h with
  | zero => exact t.elim
  | succ h =>
    obtain ⟨n, hn, -⟩ := t
    exact (List.getElem?_eq_some_iff.1 hn).1
theorem TreeOK.sum {ns : List api_Node} {h i : Nat} (t : TreeOK ns h i) (n : api_Node) (hn : ns[i]? = some n) : ∃ s, jt (n, ()) = some s := by
  cases h with
  | zero => exact t.elim
  | succ h =>
    obtain ⟨m, hm, hh⟩ := t
    obtain rfl := Option.some.inj (hm.symm.trans hn)
    rcases hh with ⟨-, h0, h1, h2⟩ | ⟨-, ks, a, b, c, d, e, f, g⟩
    · exact ave h0 h2 (by omega)
    · refine auk ?_ (by omega) (fun m hm => (f m hm).mok) (by omega)
      intro h
      rw [a] at h
      have := congrArg List.length h
      rw [bW, List.length_nil] at this
      omega
structure BS where
  l : List api_Node
  ks : List Nat
  sums : List api_Sum
theorem aux (r : BR) (N : List api_Node) (ks : List Nat) (hlt : ∀ k ∈ ks, k < N.length) (hn : ks.Nodup) (hl : N.length <= 1000) (hkl : ks.length <= 1000) (a : gC) (piv : List (List UInt8)) (sums : List api_Sum) (buf : List ag) :
    ud r (0, [], 0, [], a, (mk N (fun j => if j ∈ ks then 2 else 1), ()), piv, kidsI ks, sums, buf, ()) = some (.inl ([], 0, a, (mk N (fun _ => 1), ()), ())) := by
  obtain ⟨z, h1, h2⟩ := bQ (b := mZ r) (fun i (p : List aq) => ((i : Int), [], 0, [], a, (p, ()), piv, kidsI ks, sums, buf, ())) ks.length (fun i p => p = mk N (fun j => if j ∈ ks.drop i then 2 else 1)) (fun z => z = .inl ([], 0, a, (mk N (fun _ => 1), ()), ())) (by omega)
    (fun i hi p hp => by
      left
      subst hp
      refine ⟨_, rfl, ?_⟩
      have hik : ks[i] < N.length := hlt _ (List.getElem_mem hi)
      have e1 : (decide (((i : Nat) : Int) < ((List.length (kidsI ks)) : Int))) = true := aJ (by rw [bW]; omega)
      have e2 := dzz i
      have e3 := wr1 i (by omega)
      have hd : ks.drop i = ks[i] :: ks.drop (i + 1) := List.drop_eq_getElem_cons hi
      have hnd : (ks[i] :: ks.drop (i + 1)).Nodup := by rw [<- hd]; exact hn.sublist (List.drop_sublist _ _)
      have hnot := (List.nodup_cons.1 hnd).1
      have e4 := avt (ns := N) (r := fun j => if j ∈ ks.drop i then 2 else 1) hik (if_pos (by rw [hd]; exact List.mem_cons_self)) hl
      have e5 : mk N (fun j => if j = ks[i] then 1 else if j ∈ ks.drop i then 2 else 1) = mk N (fun j => if j ∈ ks.drop (i + 1) then 2 else 1) := aeT fun j _ => by
        by_cases hj : j = ks[i]
        · rw [if_pos hj, if_neg (by rw [hj]; exact hnot)]
        · rw [if_neg hj]
          have : j ∈ ks.drop i ↔ j ∈ ks.drop (i + 1) := by rw [hd, List.mem_cons]; exact ⟨fun h => h.resolve_left hj, .inr⟩
          by_cases h2 : j ∈ ks.drop i
          · rw [if_pos h2, if_pos (this.1 h2)]
          · rw [if_neg h2, if_neg (fun h => h2 (this.2 h))]
      rw [e5] at e4
      simp only [mZ, e1, e2, cond_true, Bool.and_self, Int.toNat_natCast, m8 hi, e4, e3])
    (fun p hp => by
      subst hp
      have e1 : (decide (((ks.length : Nat) : Int) < ((List.length (kidsI ks)) : Int))) = false := bu (by rw [bW]; omega)
      have e5 : mk N (fun j => if j ∈ ks.drop ks.length then 2 else 1) = mk N (fun _ => 1) := aeT fun j _ => by rw [List.drop_length]; simp
      exact ⟨_, rfl, by simp only [mZ, e1, cond_false, e5]⟩) (mk N (fun j => if j ∈ ks then 2 else 1)) (by simp)
  subst h2
  exact h1
theorem auw (r : BR) (N : List api_Node) (ks : List Nat) (hlt : ∀ k ∈ ks, k < N.length) (hn : ks.Nodup) (hl : N.length <= 899) (hkl : ks.length <= 1000) (piv : List (List UInt8)) (sums : List api_Sum) (buf : List ag) :
    li r ((mk N (fun _ => 1), ()), [], 0, [], piv, kidsI ks, sums, buf, ()) = some (((mk (N ++ [([], piv, kidsI ks, sums, buf, ())]) (fun _ => 1), ()), ((N.length : Nat) : Int), ()), ()) := by
  have e1 := aut (ns := N) (n := ([], piv, kidsI ks, sums, buf, ())) (ks := ks) rfl hlt hn hkl (by omega)
  have e2 := aux r (N ++ [([], piv, kidsI ks, sums, buf, ())]) ks (fun k hk => by have := hlt k hk; simp; omega) hn (by simp; omega) hkl ((mk (N ++ [([], piv, kidsI ks, sums, buf, ())]) (fun j => if j ∈ ks then 2 else 1), ()), ((N.length : Int), (0, ()))) piv sums buf
  simp only [li, e1, e2]
structure XOK (x : aA) : Prop where
  b0 : (∀ y ∈ x.2.1.1, raw6 y) /\ x.2.1.1.length < 1000000000000000000
  b1 : (∀ y ∈ x.2.1.2.1, raw6 y) /\ x.2.1.2.1.length < 1000000000000000000
  b2 : (∀ y ∈ x.2.1.2.2.1, raw6 y) /\ x.2.1.2.2.1.length < 1000000000000000000
  b3 : (∀ y ∈ x.2.1.2.2.2.1, raw6 y) /\ x.2.1.2.2.2.1.length < 1000000000000000000
structure TOK (t : List ae) : Prop where
  len : t.length <= 1000
  key : ∀ p ∈ t, PlOK p.1
theorem aqp (p q : ae) : ∀ t : List ae, q ∈ ins p t -> q = p \/ q ∈ t
  | [], h => by simp [ins] at h; exact .inl h
  | x :: t, h => by
    unfold ins at h
    cases hb : Op.bytesLess x.1 p.1
    · rw [hb, cond_false] at h
      rcases List.mem_cons.1 h with h | h
      · exact .inl h
      · exact .inr (List.mem_filter.1 h).1
    · rw [hb, cond_true] at h
      rcases List.mem_cons.1 h with h | h
      · exact .inr (by rw [h]; exact List.mem_cons_self)
      · exact (aqp p q t h).imp id (List.mem_cons_of_mem _)
theorem apM (l : List aP) (q : ae) (h : q ∈ zO l) : ∃ y ∈ l, q = wx y := by
  have key : ∀ (l : List aP) (t : List ae), q ∈ l.foldl (fun t x => ins (wx x) t) t -> q ∈ t \/ ∃ y ∈ l, q = wx y := by
    intro l
    induction l with
    | nil => intro t h; exact .inl h
    | cons x l ih =>
      intro t h
      rcases ih _ h with h | ⟨y, hy, e⟩
      · rcases aqp _ _ _ h with h | h
        · exact .inr ⟨x, List.mem_cons_self, h⟩
        · exact .inl h
      · exact .inr ⟨y, List.mem_cons_of_mem _ hy, e⟩
  rcases key l [] h with h | h
  · simp at h
  · exact h
theorem av4 (n : Int) (h0 : 0 <= n) (h1 : n < 256) : PlOK (yd n) := by
  obtain ⟨m, rfl⟩ := Int.eq_ofNat_of_zero_le h0
  have hc : (List.range 256).all (fun k => (nD (yd ((k : Nat) : Int), ())).isSome) = true := by kernel_rfl
  exact List.all_eq_true.1 hc m (List.mem_range.2 (by omega))
theorem avF (l : List aP) (h : ∀ x ∈ l, raw24 x) : TOK (zO (l.take 40)) := by
  refine ⟨?_, fun p hp => ?_⟩
  · have := akM (l.take 40)
    simp only [List.length_take] at this
    omega
  · obtain ⟨y, hy, rfl⟩ := apM _ _ hp
    have := (h y (List.mem_of_mem_take hy)).1
    exact av4 y.1 this.1 this.2
def cap : Nat -> Nat
  | 0 => 1
  | d + 1 => 1 + 6 * cap d
structure awv (x : aA) : Prop where
  xok : XOK x
  t : (∀ y ∈ x.1, raw24 y) /\ x.1.length < 1000000000000000000
  w : 0 <= x.2.2.1 /\ x.2.2.1 < 256
def LV : List (List (List (List UInt8))) := [[], [[[97, 47, 98, 47], [98, 47], [99, 47]]], [[[98, 47]], [[97, 47, 2], [97, 47, 98, 47], [99, 47]]], [[[97, 47, 98, 47], [98, 47]], [[97, 47, 98, 47, 2], [99, 47], [100, 47]]]]
def shp (w : Int) : aP := (IntKind.i64.wrap (2 + IntKind.i64.wrap (Int.tmod (IntKind.u8.wrap (Int.tdiv w 4)) 4)), (IntKind.i64.wrap (2 + IntKind.i64.wrap (Int.tmod (IntKind.u8.wrap (Int.tdiv w 16)) 3)), (IntKind.i64.wrap (1 + IntKind.i64.wrap (IntKind.u8.wrap (Int.tdiv w 64))), ())))
theorem auH (x : aA) : acI (x, ()) = match yM (x.1, ()) with
    | none => none
    | some r0 => bif (decide ((0 : Int) <= IntKind.i64.wrap (Int.tmod x.2.2.1 4)) && decide (IntKind.i64.wrap (Int.tmod x.2.2.1 4) < (List.length LV : Int))) then
        match zE ((([] : List (aq)), ()), r0.1, (([] : List UInt8), (([] : List UInt8), ())), List.getD LV (Int.toNat (IntKind.i64.wrap (Int.tmod x.2.2.1 4))) [], x, ()) with
        | none => none
        | some r3 => some ((r3.1.1, (r3.1.2.1, (shp x.2.2.1, ()))), ())
      else none := rfl
end D
open Go Go.X
namespace D
end D
open Go Go.X
namespace D
theorem age (n : api_Node) : tb (n, ()) = some (decide ((((List.length n.2.2.1) : Int) : Int) = (0 : Int)), ()) := rfl
theorem as5 (ns : List api_Node) (sh : aP) (root h : Nat) (hh : 1 <= h /\ h <= 100) (ht : TreeOK ns h root) :
    nH (((mk ns (fun _ => 1), ()), (((root : Nat) : Int), (sh, ()))), ()) = some ((h : Int), ()) := by
  obtain ⟨T, hT⟩ : ∃ T : az, ((mk ns (fun _ => 1), ()), (((root : Nat) : Int), (sh, ()))) = T := ⟨_, rfl⟩
  have hTp : T.1 = (mk ns (fun _ => 1), ()) := by rw [<- hT]
  have hTr : T.2.1 = ((root : Nat) : Int) := by rw [<- hT]
  rw [hT]
  have e1 := me (ns := ns) (r := fun _ => 1) ht.lt
  obtain ⟨r, h1, rfl⟩ := bQ (b := qs) (fun j (n : api_Node) => (((j + 1 : Nat) : Int), T, n, ())) (h - 1)
    (fun j n => ∃ id, TreeOK ns (h - j) id /\ ns[id]? = some n) (fun r => r = .inl ((h : Int), ())) (by omega)
    (fun j hj n hq => by
      left
      obtain ⟨id, a1, hn0⟩ := hq
      obtain ⟨m, hm⟩ : ∃ m, h - j = m + 1 := ⟨h - j - 1, by omega⟩
      rw [hm] at a1
      obtain ⟨n', hn, hcase⟩ := a1
      obtain rfl := Option.some.inj (hn.symm.trans hn0)
      rcases hcase with ⟨m0, -⟩ | ⟨m0, ks, b1, b2, b3, b4, b5, b6, b7⟩
      · omega
      · have hk0 : 0 < ks.length := by omega
        have e4 : (decide ((((List.length n'.2.2.1) : Int) : Int) = (0 : Int))) = false := bu (by rw [b1, bW]; omega)
        have e5 : (decide (((0 : Int) : Int) < (List.length n'.2.2.1 : Int))) = true := aJ (by rw [b1, bW]; omega)
        have e7 : List.getD n'.2.2.1 0 0 = ((ks[0] : Nat) : Int) := by rw [b1, m8 hk0]
        have b8 := b7 _ (List.getElem_mem hk0)
        have e8 := me (ns := ns) (r := fun _ => 1) b8.lt
        have e3 : IntKind.i64.wrap (((j + 1 : Nat) : Int) + 1) = ((j + 1 + 1 : Nat) : Int) := by rw [cI (by omega)]; omega
        refine ⟨ns[ks[0]]'b8.lt, ⟨ks[0], ?_, List.getElem?_eq_getElem b8.lt⟩, by simp only [qs, age, e4, Bool.not_false, cond_true, e5, e7, hTp, e8, e3]⟩
        rw [show h - (j + 1) = m by omega]
        exact b8)
    (fun n hq => by
      obtain ⟨id, a1, hn0⟩ := hq
      have hm : h - (h - 1) = 0 + 1 := by omega
      rw [hm] at a1
      obtain ⟨n', hn, hcase⟩ := a1
      obtain rfl := Option.some.inj (hn.symm.trans hn0)
      rcases hcase with ⟨m0, b1, b2, b3⟩ | ⟨m0, -⟩
      · have e4 : (decide ((((List.length n'.2.2.1) : Int) : Int) = (0 : Int))) = true := aJ (by rw [b1]; rfl)
        refine ⟨_, rfl, ?_⟩
        simp only [qs, age, e4, Bool.not_true, cond_false]
        rw [show ((h - 1 + 1 : Nat) : Int) = (h : Int) by omega]
      · exact (Nat.lt_irrefl _ m0).elim) (ns[root]'ht.lt) ⟨root, ht, List.getElem?_eq_getElem ht.lt⟩
  have h1' : yY ((1 : Int), T, ns[root]'ht.lt, ()) = some (.inl ((h : Int), ())) := h1
  simp only [nH, hTp, hTr, e1, h1']
theorem akz (x : R5) (h : raw6 x) : ∃ k v f t s, uL (x, ()) = some (gJ (Int.tmod x.1 6) k v f (amj f t) s (IntKind.i64.wrap (Int.tmod x.2.2.2.2.2.1 8)), ()) /\ MsgOK (gJ (Int.tmod x.1 6) k v f (amj f t) s (IntKind.i64.wrap (Int.tmod x.2.2.2.2.2.1 8))) /\ f ∈ paths5 /\ t ∈ paths5 /\ s.1.length <= 200 /\ s.2.1.length <= 200 := by
  obtain ⟨h1, h2, h3, h4⟩ := h
  obtain ⟨k, hk, ek⟩ := ar1 _ h2
  obtain ⟨l, hl, el⟩ := ar1 _ h4
  obtain ⟨v, hv, ev⟩ := atb _ h3
  obtain ⟨f, hf, ef⟩ := ant _ h2
  obtain ⟨t, ht, et⟩ := ant _ h4
  obtain ⟨t1, t2, t3⟩ := av7 f hf t ht
  obtain ⟨_, ep, ep3⟩ := ago f (xn f hf)
  have e1 : qL (k, ()) = some ((k, k ++ [0], ()), ()) := by
    unfold qL
    have hlen : keys20.all (fun k => decide (k.length < 100)) = true := by kernel_rfl
    have := of_decide_eq_true (List.all_eq_true.1 hlen k hk)
    have : k.length + ([0] : List UInt8).length <= am := by rw [bT]; simp; omega
    simp only [this, aJ, cond_true]
  have hk100 : k.length < 100 := by
    have hlen : keys20.all (fun k => decide (k.length < 100)) = true := by kernel_rfl
    exact of_decide_eq_true (List.all_eq_true.1 hlen k hk)
  have hl100 : l.length < 100 := by
    have hlen : keys20.all (fun k => decide (k.length < 100)) = true := by kernel_rfl
    exact of_decide_eq_true (List.all_eq_true.1 hlen l hl)
  have hf100 : (air f).1.length <= 200 /\ (air f).2.1.length <= 200 := by
    have hlen : paths5.all (fun p => decide ((air p).1.length <= 200) && decide ((air p).2.1.length <= 200)) = true := by kernel_rfl
    have := List.all_eq_true.1 hlen f hf
    simpa using this
  have fin : ∀ s : aa, spanOK s -> (s.1.length <= 200 /\ s.2.1.length <= 200) -> ∃ k' v' f' t' s', (match cF (k, x, (0 : Int), ([] : List UInt8), ([] : List UInt8), ([] : List UInt8), ([] : List UInt8), ([] : List UInt8), ([] : List UInt8), (0 : Int), s, ()) with
      | none => none
      | some (.inl z7) => some ((z7.1, (z7.2.1, (z7.2.2.1, (z7.2.2.2.1, (z7.2.2.2.2.1, (z7.2.2.2.2.2.1, (z7.2.2.2.2.2.2.1, ()))))))), ())
      | some (.inr z7) => none) = some (gJ (Int.tmod x.1 6) k' v' f' (amj f' t') s' (IntKind.i64.wrap (Int.tmod x.2.2.2.2.2.1 8)), ()) /\ MsgOK (gJ (Int.tmod x.1 6) k' v' f' (amj f' t') s' (IntKind.i64.wrap (Int.tmod x.2.2.2.2.2.1 8))) /\ f' ∈ paths5 /\ t' ∈ paths5 /\ s'.1.length <= 200 /\ s'.2.1.length <= 200 := by
    intro s hs hsl
    refine ⟨k, v, f, t, s, ?_, asD _ _ _ _ _ _ _ hk hv hf t1 hs t2 t3, hf, ht, hsl⟩
    rw [avO k f t v x s ev ef et]
  unfold uL
  simp only [ek, el, ef, ep, e1]
  cases decide (Int.tmod x.2.2.2.2.1 4 = 0) with
  | true => exact fin _ (awe ep3) hf100
  | false =>
    simp only [cond_false]
    cases decide (Int.tmod x.2.2.2.2.1 16 = 1) with
    | true => exact fin _ (.inl rfl) ⟨by (try simp only [List.length_append, List.length_nil, List.length_cons]); omega, by (try simp only [List.length_append, List.length_nil, List.length_cons]); omega⟩
    | false =>
      simp only [cond_false]
      cases decide (Int.tmod x.2.2.2.2.1 16 = 5) with
      | true => exact fin _ (.inl rfl) ⟨by (try simp only [List.length_append, List.length_nil, List.length_cons]); omega, by (try simp only [List.length_append, List.length_nil, List.length_cons]); omega⟩
      | false =>
        simp only [cond_false]
        by_cases hkl : k = l
        · simp only [aJ hkl, cond_true]
          exact fin _ (.inr (awc k)) ⟨by (try simp only [List.length_append, List.length_nil, List.length_cons]); omega, by (try simp only [List.length_append, List.length_nil, List.length_cons]); omega⟩
        · simp only [bu hkl, cond_false]
          refine fin _ (Or.inr ?_) ?_
          rotate_left
          · cases Op.bytesLess k l <;> simp <;> omega
          rcases sJ k l with h | h | h
          · simp only [h, Bool.true_or, cond_true, Bool.not_true, cond_false]
          · exact absurd h hkl
          · simp only [abh h, Bool.false_or, Bool.or_false, Bool.not_false, cond_true, cond_false]
            exact h
def raw6n (x : R5) : Prop := raw6 x /\ (0 <= x.2.2.2.2.1 /\ x.2.2.2.2.1 < 256) /\ 0 <= x.2.2.2.2.2.1 /\ x.2.2.2.2.2.1 < 256
def MadeM (m : ag) : Prop := ∃ x : R5, raw6n x /\ uL (x, ()) = some (m, ())
theorem MadeM.ok {m : ag} (h : MadeM m) : MsgOK m := by
  obtain ⟨x, hx, e⟩ := h
  obtain ⟨k, v, f, t, s, e2, ok, -, -⟩ := akz x hx.1
  have e3 := Option.some.inj (e.symm.trans e2)
  have e4 : m = _ := congrArg Prod.fst e3
  rw [e4]
  exact ok
theorem av0 (l : List R5) (h : ∀ x ∈ l, raw6n x) (n : Nat) (hn : n <= 1000) (hl : l.length < 1000000000000000000) : ∃ ms, acC (l, (n : Int), ()) = some (ms, ()) /\ ms.length <= n /\ ∀ m ∈ ms, MadeM m := by
  obtain ⟨z, h1, ms, rfl, h2, h3⟩ := bQ (b := o9) (fun i (out : List ag) => (l, (n : Int), (i : Int), out, ())) (min l.length n) (fun i out => out.length = i /\ ∀ m ∈ out, MadeM m) (fun z => ∃ ms, z = .inl (ms, ()) /\ ms.length <= n /\ ∀ m ∈ ms, MadeM m) (by omega)
    (fun i hi out ho => by
      left
      obtain ⟨ho1, ho2⟩ := ho
      have hi1 : i < l.length := by omega
      obtain ⟨mm, e, ok⟩ : ∃ mm, uL (l[i], ()) = some (mm, ()) /\ MadeM mm := by
        obtain ⟨k, v, f, t, s, e, ok, -, -⟩ := akz l[i] (h _ (List.getElem_mem hi1)).1
        exact ⟨_, e, l[i], h _ (List.getElem_mem hi1), e⟩
      refine ⟨out ++ [mm], ⟨by rw [List.length_append, ho1]; rfl, fun m hm => ?_⟩, ?_⟩
      rotate_left
      · have e1 := dlt (i := i) (l := l) (by omega)
        have e2 := dzz i
        have e3 := wr1 i (by omega)
        have e4 : (decide (((i : Nat) : Int) < (n : Int))) = true := aJ (by omega)
        have e5 : ∀ x : ag, (decide ((List.length out + List.length ([x] : List (ag))) * 112 <= am)) = true := fun x => aJ (by rw [ho1, bT]; simp; omega)
        simp only [o9, mX, e1, e2, e4, cond_true, Bool.and_self, Int.toNat_natCast, aX hi1, e, e5, e3]
      · rcases List.mem_append.1 hm with hm | hm
        · exact ho2 m hm
        · rw [List.mem_singleton.1 hm]; exact ok)
    (fun out ho => by
      obtain ⟨ho1, ho2⟩ := ho
      refine ⟨_, ⟨out, rfl, by omega, ho2⟩, ?_⟩
      rcases Nat.lt_or_ge (min l.length n) l.length with h1 | h1
      · have e1 : (decide (((min l.length n : Nat) : Int) < ((List.length l) : Int))) = true := aJ (by omega)
        have e4 : (decide (((min l.length n : Nat) : Int) < (n : Int))) = false := bu (by omega)
        simp only [o9, mX, e1, e4, cond_true, cond_false]
      · have e1 : (decide (((min l.length n : Nat) : Int) < ((List.length l) : Int))) = false := bu (by omega)
        simp only [o9, mX, e1, cond_false]) [] ⟨rfl, by simp⟩
  have h1' : aa1 (l, (n : Int), 0, [], ()) = some (.inl (ms, ())) := h1
  exact ⟨ms, by simp only [acC, h1'], h2, h3⟩
theorem acm (l : List R5) (h : ∀ x ∈ l, raw6n x) (s : aa) (hl : l.length < 1000000000000000000) : ∃ ms, mC (l, s, (5 : Int), ()) = some (ms, ()) /\ ms.length <= 5 /\ ∀ m ∈ ms, MadeM m /\ ref08_Lies (m, s, ()) = some (true, ()) := by
  obtain ⟨all, h1, h2, h3⟩ := av0 l h 15 (by omega) hl
  obtain ⟨z, g1, ms, rfl, g2, g3⟩ := bQ (b := i6) (fun i (out : List ag) => ((5 : Int), (i : Int), s, out, all, ())) all.length (fun i out => out.length <= 5 /\ ∀ m ∈ out, MadeM m /\ ref08_Lies (m, s, ()) = some (true, ())) (fun z => ∃ ms, z = .inl (ms, ()) /\ ms.length <= 5 /\ ∀ m ∈ ms, MadeM m /\ ref08_Lies (m, s, ()) = some (true, ())) (by omega)
    (fun i hi out ho => by
      obtain ⟨ho1, ho2⟩ := ho
      have e1 := dlt (i := i) (l := all) (by omega)
      have e2 := dzz i
      have e3 := wr1 i (by omega)
      by_cases h5 : out.length < 5
      · left
        have e4 : (decide ((((List.length out) : Int) : Int) < (5 : Int))) = true := aJ (by omega)
        obtain ⟨r, hr⟩ := auE (h3 all[i] (List.getElem_mem hi)).ok s
        have e5 : ∀ x : ag, (decide ((List.length out + List.length ([x] : List (ag))) * 112 <= am)) = true := fun x => aJ (by rw [bT]; simp; omega)
        cases r with
        | false => exact ⟨out, ⟨ho1, ho2⟩, by simp only [i6, gm, e1, e2, e4, cond_true, cond_false, Bool.and_self, Int.toNat_natCast, aX hi, hr, e3]⟩
        | true =>
          refine ⟨out ++ [all[i]], ⟨by simp; omega, fun m hm => ?_⟩, by simp only [i6, gm, e1, e2, e4, cond_true, cond_false, Bool.and_self, Int.toNat_natCast, aX hi, hr, e5, e3]⟩
          rcases List.mem_append.1 hm with hm | hm
          · exact ho2 m hm
          · rw [List.mem_singleton.1 hm]; exact ⟨h3 _ (List.getElem_mem hi), hr⟩
      · right
        have e4 : (decide ((((List.length out) : Int) : Int) < (5 : Int))) = false := bu (by omega)
        exact ⟨_, ⟨out, rfl, ho1, ho2⟩, by simp only [i6, gm, e1, e4, cond_true, cond_false]⟩)
    (fun out ho => by
      have e1 := dnl all
      exact ⟨_, ⟨out, rfl, ho.1, ho.2⟩, by simp only [i6, gm, e1, cond_false]⟩) [] ⟨by simp, by simp⟩
  have g1' : uO (5, 0, s, [], all, ()) = some (.inl (ms, ())) := g1
  have e6 : IntKind.i64.wrap ((3 : Int) * 5) = ((15 : Nat) : Int) := by rw [cI (by omega)]; rfl
  exact ⟨ms, by simp only [mC, e6, h1, g1'], g2, g3⟩
def mineOf (P : List (List UInt8)) (s : aa) : List (List UInt8) := P.filter fun k => (!(Op.bytesLess k s.1 || decide (k = s.1))) && agu s k
def partsOf (s : aa) (m : List (List UInt8)) : List aa := ((sT (s, m, ())).map (·.1)).getD []
theorem abv (P : List (List UInt8)) (s : aa) : (mineOf P s).length <= P.length := List.length_filter_le _ _
theorem ajz (s : aa) (m : List (List UInt8)) (hl : m.length <= 100000) : sT (s, m, ()) = some (partsOf s m, ()) /\ (partsOf s m).length = m.length + 1 := by
  obtain ⟨l, h1, h2⟩ := aua s m hl
  have e : partsOf s m = l := by unfold partsOf; rw [h1]; rfl
  rw [e]
  exact ⟨h1, h2⟩
theorem awf (n : api_Node) (s : aa) (h0 : n.2.2.1 ≠ []) (hl : n.2.1.length <= 100000) : vG (n, s, ()) = some (partsOf s n.2.1, ()) := by
  obtain ⟨h1, h2⟩ := ajz s n.2.1 hl
  have e0 : (decide ((((List.length n.2.2.1) : Int) : Int) = (0 : Int))) = false := bu (by
    have := List.length_pos_iff.2 h0
    omega)
  simp only [vG, e0, cond_false, h1]
theorem at8 (r : BR) (t : List ae) (pv : List (List (List UInt8))) (p : ah) (s : aa) (x : aA) (h0 : 0 < pv.length) (hl : (List.getD pv 0 []).length <= 100) :
    ub r (t, pv, 0, p, s, x, [], 0, [], ()) = some (.inl (t, pv, p, s, x, [], 0, mineOf (List.getD pv 0 []) s, ())) := by
  obtain ⟨P, hP⟩ : ∃ P, List.getD pv 0 [] = P := ⟨_, rfl⟩
  rw [hP] at hl ⊢
  obtain ⟨z, h1, rfl⟩ := bQ (b := mY r) (fun i (mine : List (List UInt8)) => (t, pv, (i : Int), p, s, x, [], 0, mine, ())) P.length (fun i mine => mine = mineOf (P.take i) s) (fun z => z = .inl (t, pv, p, s, x, [], 0, mineOf P s, ())) (by omega)
    (fun i hi mine hm => by
      left
      have e0 : (decide (((0 : Int) : Int) < (List.length pv : Int))) = true := aJ (by omega)
      have e1 := dlt (i := i) (l := P) (by omega)
      have e2 := dzz i
      have e3 := wr1 i (by omega)
      have hml : mine.length <= i := by
        rw [hm]
        have := abv (P.take i) s
        rw [List.length_take] at this
        omega
      have e5 : ∀ k : List UInt8, (decide ((List.length mine + List.length ([k] : List (List UInt8))) * 16 <= am)) = true := fun k => aJ (by rw [bT]; simp; omega)
      have hs : mineOf (P.take (i + 1)) s = mine ++ mineOf [P[i]] s := by
        rw [uS hi, hm]
        unfold mineOf
        rw [List.filter_append]
      simp only [mY, tY, e0, e1, e2, hP, cond_true, Bool.and_self, Int.toNat_natCast, aX hi, au3, e5, e3]
      unfold mineOf at hs
      simp only [List.filter_cons, List.filter_nil] at hs
      cases h2 : (!(Op.bytesLess P[i] s.1 || decide ((P[i] : List UInt8) = s.1)))
      · rw [h2] at hs
        exact ⟨mine, by unfold mineOf; rw [hs]; simp, by simp only [cond_false]⟩
      · rw [h2] at hs
        cases h3 : agu s P[i]
        · rw [h3] at hs
          exact ⟨mine, by unfold mineOf; rw [hs]; simp, by simp only [cond_true, cond_false]⟩
        · rw [h3] at hs
          exact ⟨mine ++ [P[i]], by unfold mineOf; rw [hs]; simp, by simp only [cond_true]⟩)
    (fun mine hm => by
      have e0 : (decide (((0 : Int) : Int) < (List.length pv : Int))) = true := aJ (by omega)
      have e1 := dnl P
      rw [List.take_length] at hm
      subst hm
      exact ⟨_, rfl, by simp only [mY, e0, e1, hP, cond_true, cond_false]⟩) [] rfl
  exact h1
def SumAt (ns : List api_Node) (k : Nat) (s : api_Sum) : Prop := ∃ kid, ns[k]? = some kid /\ jt (kid, ()) = some (s, ())
abbrev sp0 : aa := (([] : List UInt8), (([] : List UInt8), ()))
abbrev sum0 : api_Sum := (((0 : Int), ((0 : Int), ())), (((0 : Int), ((0 : Int), ())), ()))
def TreeS (ns : List api_Node) (t : List ae) : List (List (List UInt8)) -> aa -> Nat -> Prop
  | [], s, i => ns[i]? = some (inS s t, [], [], [], [], ())
  | P :: pv, s, i => ∃ (ks : List Nat) (sums : List api_Sum) (buf : List ag),
      ns[i]? = some ([], mineOf P s, kidsI ks, sums, buf, ()) /\ ks.length = (mineOf P s).length + 1 /\ sums.length = ks.length /\ ks.Nodup /\ (∀ k ∈ ks, k < i) /\
      buf.length <= 5 /\ (∀ m ∈ buf, MadeM m /\ ref08_Lies (m, s, ()) = some (true, ())) /\
      ∀ j, j < ks.length -> TreeS ns t pv (List.getD (partsOf s (mineOf P s)) j sp0) (ks.getD j 0) /\ SumAt ns (ks.getD j 0) (List.getD sums j sum0)
theorem SumAt.app {ns : List api_Node} (l : List api_Node) {k : Nat} {s : api_Sum} (h : SumAt ns k s) : SumAt (ns ++ l) k s := by
  obtain ⟨n, h1, h2⟩ := h
  refine ⟨n, ?_, h2⟩
  rw [List.getElem?_append_left (List.getElem?_eq_some_iff.1 h1).1]
  exact h1
theorem TreeS.app {ns : List api_Node} {t : List ae} (l : List api_Node) : ∀ {pv : List (List (List UInt8))} {s : aa} {i : Nat}, TreeS ns t pv s i -> TreeS (ns ++ l) t pv s i
  | [], s, i, h => by
    show (ns ++ l)[i]? = _
    rw [List.getElem?_append_left (List.getElem?_eq_some_iff.1 h).1]
    exact h
  | P :: pv, s, i, ⟨ks, sums, buf, h1, h2, h3, h4, h5, h6, h7, h8⟩ => by
    refine ⟨ks, sums, buf, ?_, h2, h3, h4, h5, h6, h7, fun j hj => ⟨TreeS.app l (h8 j hj).1, (h8 j hj).2.app l⟩⟩
    rw [List.getElem?_append_left (List.getElem?_eq_some_iff.1 h1).1]
    exact h1
theorem TreeS.ok {ns : List api_Node} {t : List ae} (ht : TOK t) : ∀ {pv : List (List (List UInt8))} {s : aa} {i : Nat}, (∀ q ∈ pv, q.length <= 5) -> TreeS ns t pv s i -> TreeOK ns (pv.length + 1) i
  | [], s, i, hq, h => ⟨_, h, .inl ⟨rfl, rfl, by have := aql s t; have := ht.len; show (inS s t).length <= 1000; omega, fun p hp => ht.key p (List.mem_filter.1 hp).1⟩⟩
  | P :: pv, s, i, hq, ⟨ks, sums, buf, h1, h2, h3, h4, h5, h6, h7, h8⟩ => by
    have hP := hq P List.mem_cons_self
    have hm := abv P s
    refine ⟨_, h1, .inr ⟨by simp, ks, rfl, h2, by show (mineOf P s).length <= 100; omega, by show sums.length <= 1000; omega, h6, fun m hm => (h7 m hm).1.ok, fun k hk => ?_⟩⟩
    obtain ⟨j, hj, rfl⟩ := List.mem_iff_getElem.1 hk
    have := (h8 j hj).1
    rw [aX hj] at this
    exact TreeS.ok ht (fun q hq' => hq q (List.mem_cons_of_mem _ hq')) this
theorem TreeS.lt {ns : List api_Node} {t : List ae} : ∀ {pv : List (List (List UInt8))} {s : aa} {i : Nat}, TreeS ns t pv s i -> i < ns.length
  | [], s, i, h => (List.getElem?_eq_some_iff.1 h).1
  | P :: pv, s, i, ⟨ks, sums, buf, h1, _⟩ => (List.getElem?_eq_some_iff.1 h1).1
theorem alb {α : Type} {l : List α} {x d : α} {j : Nat} (h : j < l.length) : List.getD (l ++ [x]) j d = List.getD l j d := by
  simp [List.getD, List.getElem?_append_left h]
theorem ala {α : Type} {l : List α} {x d : α} {j : Nat} (h : j = l.length) : List.getD (l ++ [x]) j d = x := by
  subst h
  simp [List.getD]
def aiQ (r : BR) (t : List ae) (x : aA) (pv : List (List (List UInt8))) (c : Nat) : Prop :=
  ∀ (ns : List api_Node) (s : aa), ns.length + c <= 900 ->
    ∃ l i, r ((mk ns (fun _ => 1), ()), t, s, pv, x, ()) = some (((mk (ns ++ l) (fun _ => 1), ()), ((i : Nat) : Int), ()), ()) /\ l.length <= c /\ ns.length <= i /\ TreeS (ns ++ l) t pv s i
theorem at9 (r : BR) (t : List ae) (ht : TOK t) (x : aA) (P : List (List UInt8)) (pv : List (List (List UInt8))) (hq : ∀ q ∈ pv, q.length <= 5) (c : Nat) (hr : aiQ r t x pv c) (ns : List api_Node) (s : aa) (parts : List aa) (mine : List (List UInt8)) (hp : parts.length <= 6) (hn : ns.length + parts.length * c <= 900) (hpv : pv.length <= 100) :
    ∃ q : BS, uc r (t, P :: pv, 0, (mk ns (fun _ => 1), ()), s, x, [], 0, [], [], parts, mine, [], [], ()) = some (.inl ((mk (ns ++ q.l) (fun _ => 1), ()), s, x, [], 0, [], [], mine, kidsI q.ks, q.sums, ())) /\
      q.l.length <= parts.length * c /\ q.ks.length = parts.length /\ q.sums.length = parts.length /\ q.ks.Nodup /\ (∀ k ∈ q.ks, k < (ns ++ q.l).length) /\ (∀ j, j < parts.length -> TreeS (ns ++ q.l) t pv (List.getD parts j sp0) (q.ks.getD j 0) /\ SumAt (ns ++ q.l) (q.ks.getD j 0) (List.getD q.sums j sum0)) := by
  obtain ⟨z, h1, q, rfl, h2⟩ := bQ (b := lh r) (fun i (q : BS) => (t, P :: pv, (i : Int), (mk (ns ++ q.l) (fun _ => 1), ()), s, x, [], 0, [], [], parts, mine, kidsI q.ks, q.sums, ())) parts.length
    (fun i q => q.l.length <= i * c /\ q.ks.length = i /\ q.sums.length = i /\ q.ks.Nodup /\ (∀ k ∈ q.ks, k < (ns ++ q.l).length) /\ ∀ j, j < i -> TreeS (ns ++ q.l) t pv (List.getD parts j sp0) (q.ks.getD j 0) /\ SumAt (ns ++ q.l) (q.ks.getD j 0) (List.getD q.sums j sum0))
    (fun z => ∃ q : BS, z = .inl ((mk (ns ++ q.l) (fun _ => 1), ()), s, x, [], 0, [], [], mine, kidsI q.ks, q.sums, ()) /\ q.l.length <= parts.length * c /\ q.ks.length = parts.length /\ q.sums.length = parts.length /\ q.ks.Nodup /\ (∀ k ∈ q.ks, k < (ns ++ q.l).length) /\ (∀ j, j < parts.length -> TreeS (ns ++ q.l) t pv (List.getD parts j sp0) (q.ks.getD j 0) /\ SumAt (ns ++ q.l) (q.ks.getD j 0) (List.getD q.sums j sum0))) (by omega)
    (fun i hi q hq2 => by
      left
      obtain ⟨a1, a2, a3, a4, a5, a6⟩ := hq2
      have hmul : i * c + c <= parts.length * c := by
        have : (i + 1) * c <= parts.length * c := Nat.mul_le_mul_right c hi
        rw [Nat.add_mul] at this
        omega
      have e1 := dlt (i := i) (l := parts) (by omega)
      have e2 := dzz i
      have e3 := wr1 i (by omega)
      have e4 : (decide (((1 : Int) : Int) <= (List.length (P :: pv) : Int)) && decide (((List.length (P :: pv) : Int) : Int) <= (List.length (P :: pv) : Int))) = true := by
        rw [aJ (by simp; omega), aJ (Int.le_refl _)]; rfl
      have e5 : List.drop (Int.toNat (1 : Int)) (List.take (List.length (P :: pv)) (P :: pv)) = pv := by
        rw [List.take_length]
        rfl
      obtain ⟨l, j, b1, b2, b3, b4⟩ := hr (ns ++ q.l) parts[i] (by simp; omega)
      have hj := b4.lt
      have e6 := asI (r := fun _ => 1) hj
      obtain ⟨sm, hsm⟩ := (b4.ok ht hq).sum _ (List.getElem?_eq_getElem hj)
      have e7 : (decide ((List.length (kidsI q.ks) + List.length ([((j : Nat) : Int)] : List (Int))) * 8 <= am)) = true := aJ (by rw [bW, bT]; simp; omega)
      have e8 : ∀ y : api_Sum, (decide ((List.length q.sums + List.length ([y] : List (api_Sum))) * 32 <= am)) = true := fun y => aJ (by rw [bT]; simp; omega)
      have e9 : kidsI q.ks ++ [((j : Nat) : Int)] = kidsI (q.ks ++ [j]) := by simp [kidsI]
      refine ⟨⟨q.l ++ l, q.ks ++ [j], q.sums ++ [sm.1]⟩, ⟨by simp only [List.length_append]; rw [Nat.add_mul]; omega, by simp [a2], by simp [a3], ?_, ?_, ?_⟩, ?_⟩
      · rw [List.nodup_append]
        refine ⟨a4, by simp, ?_⟩
        intro a ha b hb
        have := a5 a ha
        simp only [List.mem_singleton] at hb
        omega
      · intro k hk
        rw [<- List.append_assoc]
        rcases List.mem_append.1 hk with hk | hk
        · have := a5 k hk
          rw [List.length_append]
          omega
        · rw [List.mem_singleton.1 hk]; exact hj
      · intro k hk
        rw [<- List.append_assoc]
        show TreeS _ t pv _ (List.getD (q.ks ++ [j]) k 0) /\ SumAt _ (List.getD (q.ks ++ [j]) k 0) (List.getD (q.sums ++ [sm.1]) k sum0)
        rcases Nat.lt_or_ge k i with h | h
        · rw [alb (by omega), alb (by omega)]
          exact ⟨(a6 k h).1.app l, (a6 k h).2.app l⟩
        · have hki : k = i := by omega
          subst hki
          rw [ala (by omega), ala (by omega), aX hi]
          exact ⟨b4, _, List.getElem?_eq_getElem hj, hsm⟩
      · have e10 : jt ((ns ++ q.l ++ l)[j], ()) = some (sm.1, ()) := hsm
        show lh r _ = some (Sum.inl (t, P :: pv, ((i + 1 : Nat) : Int), (mk (ns ++ (q.l ++ l)) (fun _ => 1), ()), s, x, [], 0, [], [], parts, mine, kidsI (q.ks ++ [j]), q.sums ++ [sm.1], ()))
        rw [show ns ++ (q.l ++ l) = ns ++ q.l ++ l from (List.append_assoc _ _ _).symm]
        simp only [lh, e1, e2, e4, e5, cond_true, Bool.and_self, Int.toNat_natCast, aX hi, b1, e6, e7, e10, e8, e3, e9])
    (fun q hq2 => by
      have e1 := dnl parts
      exact ⟨_, ⟨q, rfl, hq2⟩, by simp only [lh, e1, cond_false]⟩) ⟨[], [], []⟩ ⟨by simp, rfl, rfl, List.nodup_nil, by simp, fun j hj => by omega⟩
  refine ⟨q, ?_, h2⟩
  have h1' := h1
  simp only [List.append_nil] at h1'
  exact h1'
structure XOKn (x : aA) : Prop where
  b0 : (∀ y ∈ x.2.1.1, raw6n y) /\ x.2.1.1.length < 1000000000000000000
  b1 : (∀ y ∈ x.2.1.2.1, raw6n y) /\ x.2.1.2.1.length < 1000000000000000000
  b2 : (∀ y ∈ x.2.1.2.2.1, raw6n y) /\ x.2.1.2.2.1.length < 1000000000000000000
  b3 : (∀ y ∈ x.2.1.2.2.2.1, raw6n y) /\ x.2.1.2.2.2.1.length < 1000000000000000000
theorem at7 (r : BR) (x : aA) (hx : XOKn x) (w : Nat) (hw : w < 4) (p : ah) (s : aa) (piv : List (List UInt8)) (kids : List Int) (sums : List api_Sum) :
    ∃ buf : List ag, buf.length <= 5 /\ (∀ m ∈ buf, MadeM m /\ ref08_Lies (m, s, ()) = some (true, ())) /\ qc r ((w : Int), p, s, x, [], 0, [], [], piv, kids, sums, ()) = li r (p, [], 0, [], piv, kids, sums, buf, ()) := by
  obtain ⟨f0, a0, a1, a2⟩ := acm _ hx.b0.1 s hx.b0.2
  obtain ⟨f1, c0, c1, c2⟩ := acm _ hx.b1.1 s hx.b1.2
  obtain ⟨f2, d0, d1, d2⟩ := acm _ hx.b2.1 s hx.b2.2
  obtain ⟨f3, g0, g1, g2⟩ := acm _ hx.b3.1 s hx.b3.2
  have e1 := dzz w
  have e2 : (decide ((w : Int) < 4)) = true := aJ (by omega)
  simp only [qc, e1, e2, cond_true, Bool.and_self, Int.toNat_natCast]
  match w, hw with
  | 0, _ => exact ⟨f0, a1, a2, by simp only [a0]; rfl⟩
  | 1, _ => exact ⟨f1, c1, c2, by simp only [c0]; rfl⟩
  | 2, _ => exact ⟨f2, d1, d2, by simp only [d0]; rfl⟩
  | 3, _ => exact ⟨f3, g1, g2, by simp only [g0]; rfl⟩
theorem aqb (r : BR) (t : List ae) (x : aA) (ht : TOK t) : aiQ (i5 r) t x [] 1 := by
  intro ns s hn
  have e0 : (decide ((((List.length ([] : List (List (List UInt8)))) : Int) : Int) > (0 : Int))) = false := rfl
  have e1 : (decide ((((List.length ([] : List (List (List UInt8)))) : Int) : Int) = (0 : Int))) = true := rfl
  have e2 := auT t s (by have := ht.len; omega)
  have e3 := aut (ns := ns) (n := (inS s t, [], [], [], [], ())) (ks := []) rfl (by simp) List.nodup_nil (by simp) (by omega)
  have e4 : mk (ns ++ [(inS s t, [], [], [], [], ())]) (fun j => if j ∈ ([] : List Nat) then 2 else 1) = mk (ns ++ [(inS s t, [], [], [], [], ())]) (fun _ => 1) := aeT fun j _ => by simp
  rw [e4] at e3
  refine ⟨[(inS s t, [], [], [], [], ())], ns.length, ?_, by simp, Nat.le_refl _, ?_⟩
  · simp only [i5, e0, cond_false, ua, e1, cond_true, e2, e3]
  · show (ns ++ [_])[ns.length]? = _
    simp
theorem aqc (r : BR) (t : List ae) (ht : TOK t) (x : aA) (hx : XOKn x) (P : List (List UInt8)) (pv : List (List (List UInt8))) (hP : P.length <= 5) (hq : ∀ q ∈ pv, q.length <= 5) (hpl : pv.length <= 100) (c : Nat) (hr : aiQ r t x pv c) : aiQ (i5 r) t x (P :: pv) (1 + 6 * c) := by
  intro ns s hn
  have e0 : (decide ((((List.length (P :: pv)) : Int) : Int) > (0 : Int))) = true := aJ (by simp)
  have e1 : (decide ((((List.length (P :: pv)) : Int) : Int) = (0 : Int))) = false := bu (by simp; omega)
  have m1 := at8 r t (P :: pv) (mk ns (fun _ => 1), ()) s x (by simp) (by show P.length <= 100; omega)
  have hg : List.getD (P :: pv) 0 [] = P := rfl
  rw [hg] at m1
  have hm : (mineOf P s).length <= 5 := Nat.le_trans (abv P s) hP
  obtain ⟨mine, hmine⟩ : ∃ m, mineOf P s = m := ⟨_, rfl⟩
  rw [hmine] at m1 hm
  have e2 : IntKind.i64.wrap (((List.length mine) : Int) + 1) = ((mine.length + 1 : Nat) : Int) := by rw [cI (by omega)]; omega
  have e3 : (decide ((0 : Int) <= ((mine.length + 1 : Nat) : Int)) && decide (((mine.length + 1 : Nat) : Int) <= ((mine.length + 1 : Nat) : Int)) && decide (((mine.length + 1 : Nat) : Int) * (8 : Int) <= (am : Int))) = true := by
    rw [aJ (by omega), aJ (by omega), aJ (by rw [bT]; omega)]; rfl
  have p1 := awf ([], mine, List.replicate (mine.length + 1) (0 : Int), [], [], ()) s (by simp [List.replicate_succ]) (by show mine.length <= 100000; omega)
  have p1 : vG (([], mine, List.replicate (mine.length + 1) (0 : Int), [], [], ()), s, ()) = some (partsOf s mine, ()) := p1
  have p2 := (ajz s mine (by omega)).2
  obtain ⟨parts, hparts⟩ : ∃ p, partsOf s mine = p := ⟨_, rfl⟩
  rw [hparts] at p1 p2
  have hmul : parts.length * c <= 6 * c := Nat.mul_le_mul_right c (by omega)
  obtain ⟨q, q1, q2, q3, q4, q5, q6, q7⟩ := at9 r t ht x P pv hq c hr ns s parts mine (by omega) (by omega) hpl
  have fin : ∀ w : Nat, w < 4 -> ∃ l i, qc r ((w : Int), (mk (ns ++ q.l) (fun _ => 1), ()), s, x, [], 0, [], [], mine, kidsI q.ks, q.sums, ()) = some (((mk (ns ++ l) (fun _ => 1), ()), ((i : Nat) : Int), ()), ()) /\ l.length <= 1 + 6 * c /\ ns.length <= i /\ TreeS (ns ++ l) t (P :: pv) s i := by
    intro w hw
    obtain ⟨buf, b1, b2, b3⟩ := at7 r x hx w hw (mk (ns ++ q.l) (fun _ => 1), ()) s mine (kidsI q.ks) q.sums
    have b4 := auw r (ns ++ q.l) q.ks q6 q5 (by simp; omega) (by omega) mine q.sums buf
    refine ⟨q.l ++ [([], mine, kidsI q.ks, q.sums, buf, ())], (ns ++ q.l).length, ?_, by simp; omega, by simp, ?_⟩
    · rw [b3, b4, List.append_assoc]
    · rw [<- List.append_assoc]
      refine ⟨q.ks, q.sums, buf, by rw [hmine, List.getElem?_append_right (Nat.le_refl _)]; simp, by rw [hmine]; omega, by omega, q5, q6, b1, b2, fun j hj => ?_⟩
      rw [hmine, hparts]
      exact ⟨(q7 j (by omega)).1.app _, (q7 j (by omega)).2.app _⟩
  have hw : Int.tmod ((List.length s.1) : Int) 3 = ((s.1.length % 3 : Nat) : Int) := by
    rw [Int.tmod_eq_emod_of_nonneg (by omega)]
    omega
  have e4 : IntKind.i64.wrap ((1 : Int) + ((s.1.length % 3 : Nat) : Int)) = ((1 + s.1.length % 3 : Nat) : Int) := by rw [cI (by omega)]; omega
  simp only [i5, e0, cond_true, m1, ua, e1, cond_false, e2, e3, Int.toNat_natCast, p1, q1, hw, e4]
  cases (!(Ty.eqb ac s (([] : List UInt8), (([] : List UInt8), ()))))
  · exact fin 0 (by omega)
  · exact fin _ (by omega)
theorem aiX (t : List ae) (x : aA) (ht : TOK t) (hx : XOKn x) : ∀ (pv : List (List (List UInt8))) (n : Nat), pv.length + 1 <= n -> pv.length <= 100 -> (∀ q ∈ pv, q.length <= 5) -> aiQ (kP n) t x pv (cap pv.length)
  | _, 0, h, _, _ => by omega
  | [], n + 1, _, _, _ => aqb (kP n) t x ht
  | P :: pv, n + 1, h, h1, h2 => aqc (kP n) t ht x hx P pv (h2 P List.mem_cons_self) (fun q hq => h2 q (List.mem_cons_of_mem _ hq)) (by simp at h1; omega) (cap pv.length) (aiX t x ht hx pv n (by simp at h; omega) (by simp at h1; omega) (fun q hq => h2 q (List.mem_cons_of_mem _ hq)))
structure asq (x : aA) : Prop where
  xok : XOKn x
  t : (∀ y ∈ x.1, raw24 y) /\ x.1.length < 1000000000000000000
  w : 0 <= x.2.2.1 /\ x.2.2.1 < 256
def al1 (x : aA) : List ae := zO (x.1.take 40)
def acw (x : aA) : List (List (List UInt8)) := List.getD LV (x.2.2.1.toNat % 4) []
theorem aqv (x : aA) : acw x ∈ LV := by
  have hw : x.2.2.1.toNat % 4 < LV.length := Nat.mod_lt _ (by decide)
  unfold acw
  rw [aX hw]
  exact List.getElem_mem hw
theorem aiR : ∀ pv ∈ LV, pv.length <= 2 /\ ∀ q ∈ pv, q.length <= 5 := by decide
theorem av8 (x : aA) (h : asq x) : ∃ ns root, acI (x, ()) = some (((mk ns (fun _ => 1), ()), (((root : Nat) : Int), (shp x.2.2.1, ()))), ()) /\ TreeS ns (al1 x) (acw x) sp0 root /\ ns.length <= 43 := by
  have e0 := atU x.1 h.t.1 h.t.2
  have ht := avF x.1 h.t.1
  obtain ⟨l1, l2⟩ := aiR _ (aqv x)
  have e1 : IntKind.i64.wrap (Int.tmod x.2.2.1 (4 : Int)) = ((x.2.2.1.toNat % 4 : Nat) : Int) := by
    have := h.w
    rw [Int.tmod_eq_emod_of_nonneg this.1, cI (by omega)]
    omega
  have hw4 : x.2.2.1.toNat % 4 < 4 := Nat.mod_lt _ (by decide)
  have hc : cap (acw x).length <= 43 := by
    match (acw x).length, l1 with
    | 0, _ => decide
    | 1, _ => decide
    | 2, _ => decide
  obtain ⟨l, i, b1, b2, b3, b4⟩ := aiX (al1 x) x ht h.xok (acw x) aco (by rw [sk]; omega) (by omega) l2 [] sp0 (by simp; omega)
  have b1' : zE ((([] : List (aq)), ()), al1 x, sp0, acw x, x, ()) = some (((mk ([] ++ l) (fun _ => 1), ()), ((i : Nat) : Int), ()), ()) := b1
  have e2 : (decide ((0 : Int) <= ((x.2.2.1.toNat % 4 : Nat) : Int))) = true := aJ (by omega)
  have e3 : (decide (((x.2.2.1.toNat % 4 : Nat) : Int) < (List.length LV : Int))) = true := aJ (by have : LV.length = 4 := rfl; omega)
  refine ⟨[] ++ l, i, ?_, b4, by simp; omega⟩
  unfold acw al1 at b1'
  rw [auH]
  simp only [e0, e1, e2, e3, Bool.and_self, cond_true, Int.toNat_natCast, b1']
def atD (k : List UInt8) : Nat := match lg (k, ()) with
  | some (p, e, _) => bif !decide (e = 0) then 0 else bif decide (p.2.1 = 1) then 1 else bif decide (p.2.1 = 4) then 0 else 2
  | none => 9
def aiZ (k : List UInt8) : Nat := match nD (k, ()) with
  | some (p, e, _) => bif !decide (e = 0) then 0 else bif decide (p.2.1 = 1) then 1 else bif decide (p.2.1 = 2) then 2 else bif decide (p.2.1 = 3) then 2 else 0
  | none => 9
def akc (c n : Nat) : sL := match c with
  | 1 => ((1, (0, ())), ())
  | 2 => ((0, ((n : Int), ())), ())
  | _ => ((0, (0, ())), ())
theorem chP {p : ae} (h : atD p.1 ≠ 9) : wR (p, ()) = some (akc (atD p.1) p.2.1.length) := by
  unfold atD at h ⊢
  simp only [wR]
  cases e : lg (p.1, ()) with
  | none => rw [e] at h; exact absurd rfl h
  | some r =>
    obtain ⟨q, x, u⟩ := r
    simp only
    cases (!decide (x = 0))
    · simp only [cond_false]
      cases decide (q.2.1 = 1)
      · simp only [cond_false]
        cases decide (q.2.1 = 4) <;> rfl
      · rfl
    · rfl
theorem chR {p : ae} (h : aiZ p.1 ≠ 9) : qM (p, ()) = some (akc (aiZ p.1) p.2.1.length) := by
  unfold aiZ at h ⊢
  simp only [qM]
  cases e : nD (p.1, ()) with
  | none => rw [e] at h; exact absurd rfl h
  | some r =>
    obtain ⟨q, x, u⟩ := r
    simp only
    cases (!decide (x = 0))
    · simp only [cond_false]
      cases decide (q.2.1 = 1)
      · simp only [cond_false]
        cases decide (q.2.1 = 2)
        · simp only [cond_false]
          cases decide (q.2.1 = 3) <;> rfl
        · rfl
      · rfl
    · rfl
theorem awk (n : Int) (h0 : 0 <= n) (h1 : n < 256) : atD (yd n) = aiZ (yd n) /\ aiZ (yd n) <= 2 := by
  obtain ⟨m, rfl⟩ := Int.eq_ofNat_of_zero_le h0
  have hc : (List.range 256).all (fun k => decide (atD (yd ((k : Nat) : Int)) = aiZ (yd ((k : Nat) : Int))) && decide (aiZ (yd ((k : Nat) : Int)) <= 2)) = true := by kernel_rfl
  have := List.all_eq_true.1 hc m (List.mem_range.2 (by omega))
  simpa using this
def PcOK (p : ae) : Prop := atD p.1 = aiZ p.1 /\ aiZ p.1 <= 2 /\ p.2.1.length <= 64
theorem ata {c n : Nat} (hn : n <= 64) : (0 <= (akc c n).1.1 /\ (akc c n).1.1 <= 64) /\ 0 <= (akc c n).1.2.1 /\ (akc c n).1.2.1 <= 64 := by
  unfold akc
  split <;> simp <;> omega
theorem awg (l : List ae) (h : ∀ p ∈ l, PcOK p) (hl : l.length <= 1000000) :
    ∃ a b : Int, zp (l, ()) = some ((a, (b, ())), ()) /\ sU (l, ()) = some ((a, (b, ())), ()) /\ (0 <= a /\ a <= 64 * l.length) /\ 0 <= b /\ b <= 64 * l.length := by
  let st : Int × Int -> ae -> Int × Int := fun q p => (q.1 + (akc (aiZ p.1) p.2.1.length).1.1, q.2 + (akc (aiZ p.1) p.2.1.length).1.2.1)
  let F : Nat -> Int × Int := fun i => (l.take i).foldl st (0, 0)
  have hF : ∀ i, (hi : i < l.length) -> F (i + 1) = st (F i) l[i] := fun i hi => by
    show (l.take (i + 1)).foldl st (0, 0) = _
    rw [uS hi, List.foldl_append]
    rfl
  have hB : ∀ i, i <= l.length -> (0 <= (F i).1 /\ (F i).1 <= 64 * i) /\ 0 <= (F i).2 /\ (F i).2 <= 64 * i := by
    intro i
    induction i with
    | zero => intro _; exact ⟨⟨Int.le_refl _, by simp [F]⟩, Int.le_refl _, by simp [F]⟩
    | succ i ih =>
      intro hi
      have h1 := ih (by omega)
      have h2 := ata (c := aiZ l[i].1) (h l[i] (List.getElem_mem (by omega))).2.2
      rw [hF i (by omega)]
      simp only [st]
      omega
  obtain ⟨z, g1, rfl⟩ := bQ (b := pS) (fun i (q : Int × Int) => (l, (l.length : Int), (i : Int), 0, 0, q.1, q.2, ())) l.length (fun i q => q = F i) (fun z => z = .inl (0, 0, (F l.length).1, (F l.length).2, ())) (by omega)
    (fun i hi q hq => by
      left
      subst hq
      obtain ⟨p1, p2, p3⟩ := h l[i] (List.getElem_mem hi)
      have hc := chP (p := l[i]) (by omega)
      have hb := hB i (by omega)
      have hu := ata (c := aiZ l[i].1) p3
      have e1 := dlt (i := i) (l := l) (by omega)
      have e2 := dzz i
      have e3 := wr1 i (by omega)
      rw [p1] at hc
      refine ⟨F (i + 1), rfl, ?_⟩
      rw [hF i hi]
      simp only [pS, e1, e2, cond_true, Bool.and_self, Int.toNat_natCast, aX hi, hc, e3, st]
      rw [cI (by omega), cI (by omega)])
    (fun q hq => by
      subst hq
      have e1 := dnl l
      exact ⟨_, rfl, by simp only [pS, e1, cond_false]⟩) (0, 0) rfl
  obtain ⟨z, g2, rfl⟩ := bQ (b := iT) (fun i (q : Int × Int) => (l, (i : Int), 0, 0, q.1, q.2, ())) l.length (fun i q => q = F i) (fun z => z = .inl (0, 0, (F l.length).1, (F l.length).2, ())) (by omega)
    (fun i hi q hq => by
      left
      subst hq
      obtain ⟨p1, p2, p3⟩ := h l[i] (List.getElem_mem hi)
      have hc := chR (p := l[i]) (by omega)
      have hb := hB i (by omega)
      have hu := ata (c := aiZ l[i].1) p3
      have e1 := dlt (i := i) (l := l) (by omega)
      have e2 := dzz i
      have e3 := wr1 i (by omega)
      refine ⟨F (i + 1), rfl, ?_⟩
      rw [hF i hi]
      simp only [iT, e1, e2, cond_true, Bool.and_self, Int.toNat_natCast, aX hi, hc, e3, st]
      rw [cI (by omega), cI (by omega)])
    (fun q hq => by
      subst hq
      have e1 := dnl l
      exact ⟨_, rfl, by simp only [iT, e1, cond_false]⟩) (0, 0) rfl
  have g1' : yb (l, (l.length : Int), 0, 0, 0, 0, 0, ()) = some (.inl (0, 0, (F l.length).1, (F l.length).2, ())) := g1
  have g2' : tO (l, 0, 0, 0, 0, 0, ()) = some (.inl (0, 0, (F l.length).1, (F l.length).2, ())) := g2
  have hb := hB l.length (Nat.le_refl _)
  exact ⟨(F l.length).1, (F l.length).2, by simp only [zp, g1'], by simp only [sU, g2'], hb.1, hb.2⟩
def InS (s : api_Sum) : Prop := (0 <= s.1.1 /\ s.1.1 <= s.1.2.1 /\ s.1.2.1 <= 1000000000000000) /\ 0 <= s.2.1.1 /\ s.2.1.1 <= s.2.1.2.1 /\ s.2.1.2.1 <= 1000000000000000
theorem auC {n : api_Node} (h0 : n.2.2.1 = []) (h : ∀ p ∈ n.1, PcOK p) (hl : n.1.length <= 1000000) : ∃ s, yC (n, ()) = some (s, ()) /\ jt (n, ()) = some (s, ()) /\ InS s := by
  obtain ⟨a, b, h1, h2, h3, h4⟩ := awg n.1 h hl
  have e1 : (decide ((((List.length n.2.2.1) : Int) : Int) = (0 : Int))) = true := by rw [h0]; rfl
  refine ⟨((a, (a, ())), ((b, (b, ())), ())), by simp only [yC, e1, cond_true, h1], by simp only [jt, e1, cond_true, h2, zD], ?_⟩
  show (0 <= a /\ a <= a /\ a <= _) /\ 0 <= b /\ b <= b /\ b <= _
  omega
theorem MadeM.form {m : ag} (h : MadeM m) : ∃ a k v f t s n, m = gJ a k v f t s n /\ (0 <= a /\ a < 6) /\ (0 <= n /\ n < 8) /\ s.1.length <= 200 /\ s.2.1.length <= 200 := by
  obtain ⟨x, ⟨hx, -, h1, h2⟩, e⟩ := h
  obtain ⟨k, v, f, t, s, e2, -, -, -, l1, l2⟩ := akz x hx
  have e4 : m = _ := congrArg Prod.fst (Option.some.inj (e.symm.trans e2))
  have h3 := hx.1
  refine ⟨_, k, v, f, _, s, _, e4, ?_, ?_, l1, l2⟩
  · rw [Int.tmod_eq_emod_of_nonneg h3.1]
    omega
  · rw [Int.tmod_eq_emod_of_nonneg h1, cI (by omega)]
    omega
def clL (x : Int) : Int := if x < 0 then 0 else if 1000000000000000 < x then 1000000000000000 else x
def clH (x : Int) : Int := if 1000000000000000 < x then 1000000000000000 else x
theorem arY {lo hi a b : Int} (c d : Int) (h1 : -1000000000000000 <= lo /\ lo <= 1000000000000000) (h2 : 0 <= hi /\ hi <= 1000000000000000) (h3 : 0 <= a /\ a <= 1000000000000000) (h4 : 0 <= b /\ b <= 1000000000000000) :
    pX (lo, hi, a, b, c, d, ()) = some (clL (a + lo), clH (b + hi), c, d, ()) := by
  have e1 : IntKind.i64.wrap (a + lo) = a + lo := cI (by omega)
  have e2 : IntKind.i64.wrap (b + hi) = b + hi := cI (by omega)
  have e3 : (if (1000000000000000 : Int) < (if a + lo < 0 then 0 else a + lo) then (1000000000000000 : Int) else (if a + lo < 0 then 0 else a + lo)) = clL (a + lo) := by
    unfold clL
    by_cases h : a + lo < 0
    · simp [h]
    · simp [h]
  simp only [pX, e1, e2, e3]
  rfl
theorem arZ {lo hi c d : Int} (a b : Int) (h1 : -1000000000000000 <= lo /\ lo <= 1000000000000000) (h2 : 0 <= hi /\ hi <= 1000000000000000) (h3 : 0 <= c /\ c <= 1000000000000000) (h4 : 0 <= d /\ d <= 1000000000000000) :
    kh (lo, hi, a, b, c, d, ()) = some (a, b, clL (c + lo), clH (d + hi), ()) := by
  have e1 : IntKind.i64.wrap (c + lo) = c + lo := cI (by omega)
  have e2 : IntKind.i64.wrap (d + hi) = d + hi := cI (by omega)
  have e3 : (if (1000000000000000 : Int) < (if c + lo < 0 then 0 else c + lo) then (1000000000000000 : Int) else (if c + lo < 0 then 0 else c + lo)) = clL (c + lo) := by
    unfold clL
    by_cases h : c + lo < 0
    · simp [h]
    · simp [h]
  simp only [kh, e1, e2, e3]
  rfl
theorem amz {lo hi a b c d : Int} (h1 : -1000000000000000 <= lo /\ lo <= 1000000000000000) (h2 : 0 <= hi /\ hi <= 1000000000000000) (h3 : 0 <= a /\ a <= 1000000000000000) (h4 : 0 <= b /\ b <= 1000000000000000) (h5 : 0 <= c /\ c <= 1000000000000000) (h6 : 0 <= d /\ d <= 1000000000000000) :
    uK (lo, hi, a, b, c, d, ()) = some (clL (a + lo), clH (b + hi), clL (c + lo), clH (d + hi), ()) := by
  simp only [uK, arY c d h1 h2 h3 h4, arZ _ _ h1 h2 h5 h6]
def amT (k : List UInt8) : Bool := match lg (k, ()) with
  | some (p, e, _) => decide (e = 0) && decide (p.2.1 = 1)
  | none => false
theorem arp : ∀ k ∈ keys20, (lg (k, ())).isSome = true /\ ko (k, ()) = some (amT k, ()) := by
  have h : keys20.all (fun k => (lg (k, ())).isSome && (match ko (k, ()) with | some (b, _) => b == amT k | none => false)) = true := by kernel_rfl
  intro k hk
  have := List.all_eq_true.1 h k hk
  rw [Bool.and_eq_true] at this
  refine ⟨this.1, ?_⟩
  have h2 := this.2
  cases e : ko (k, ()) with
  | none => rw [e] at h2; cases h2
  | some q =>
    obtain ⟨b, u⟩ := q
    rw [e] at h2
    have : b = amT k := by simpa using h2
    rw [this]
theorem agb : (lg (([] : List UInt8), ())).isSome = true := by kernel_rfl
theorem ard : ∀ f ∈ paths5, ∀ t ∈ paths5, ∃ b, yD (f, t, ()) = some (b, ()) /\ ref10_Alike (f, t, ()) = some (b, ()) := by
  have h : paths5.all (fun f => paths5.all fun t => match yD (f, t, ()), ref10_Alike (f, t, ()) with | some (a, _), some (b, _) => a == b | _, _ => false) = true := by kernel_rfl
  intro f hf t ht
  have h2 := List.all_eq_true.1 (List.all_eq_true.1 h f hf) t ht
  cases e : yD (f, t, ()) with
  | none => rw [e] at h2; cases h2
  | some q =>
    cases e3 : ref10_Alike (f, t, ()) with
    | none => rw [e, e3] at h2; cases h2
    | some r =>
      obtain ⟨a, u⟩ := q
      obtain ⟨b, v⟩ := r
      rw [e, e3] at h2
      have : a = b := by simpa using h2
      subst this
      exact ⟨a, rfl, rfl⟩
theorem aaq (l : List ag) (i : Nat) (hi : i < l.length) (hl : l.length <= 1000000) (x y z w a b c d : Int) (hk : (lg (l[i].2.1, ())).isSome = true) :
    nC (l, (l.length : Int), (i : Int), x, y, z, w, a, b, c, d, ()) = cE (amT l[i].2.1, l, (l.length : Int), (i : Int), x, y, z, w, a, b, c, d, l[i], ()) := by
  have e1 := dlt (i := i) (l := l) (by omega)
  have e2 := dzz i
  obtain ⟨q, hq⟩ := Option.isSome_iff_exists.1 hk
  simp only [nC, e1, e2, cond_true, Bool.and_self, Int.toNat_natCast, aX hi, hq, amT]
  obtain ⟨p, e, u⟩ := q
  simp only
  cases decide (e = 0) <;> rfl
theorem avR {m : ag} (hm : MadeM m) (a b c d : Int) (h1 : 0 <= a /\ a <= b /\ b <= 1000000000000000) (h2 : 0 <= c /\ c <= d /\ d <= 1000000000000000) :
    ∃ a' b' c' d' : Int, cu (((a, (b, ())), ((c, (d, ())), ())), m, ()) = some (((a', (b', ())), ((c', (d', ())), ())), ()) /\ (0 <= a' /\ a' <= b' /\ b' <= 1000000000000000) /\ (0 <= c' /\ c' <= d' /\ d' <= 1000000000000000) /\
      ∀ (l : List ag) (i : Nat) (hi : i < l.length) (hl : l.length <= 1000000) (he : l[i] = m) (x y z w : Int),
        nC (l, (l.length : Int), (i : Int), x, y, z, w, a, b, c, d, ()) = some (.inl (l, (l.length : Int), ((i + 1 : Nat) : Int), x, y, z, w, a', b', c', d', ())) := by
  have hok := hm.ok
  obtain ⟨q, k, v, f, t, s, n, rfl, hq, hn, -, -⟩ := hm.form
  have w1 : IntKind.i64.wrap (b + 1) = b + 1 := cI (by omega)
  have w2 : ∀ i : Nat, i <= 1000000 -> IntKind.i64.wrap ((i : Int) + 1) = ((i + 1 : Nat) : Int) := fun i hi => by rw [cI (by omega)]; omega
  have w3 : IntKind.i64.wrap (c - 64) = c - 64 := cI (by omega)
  have w4 : IntKind.i64.wrap (a - 1) = a - 1 := cI (by omega)
  have cases6 : q = 0 \/ q = 1 \/ q = 2 \/ q = 3 \/ q = 4 \/ q = 5 := by omega
  rcases cases6 with rfl | rfl | rfl | rfl | rfl | rfl
  · -- Put
    have hkm : gJ 0 k v f t s n = (1, k, v, ([], [], ()), [], [], n, ()) := rfl
    rw [hkm] at hok ⊢
    have hk : k ∈ keys20 := hok.key (.inl rfl)
    have hv : v.length <= 10 := hok.val rfl
    obtain ⟨p1, p2⟩ := arp k hk
    have w5 : IntKind.i64.wrap (d + (v.length : Int)) = d + (v.length : Int) := cI (by omega)
    cases hent : amT k with
    | true =>
      refine ⟨a, (if b + 1 < 1000000000000000 then b + 1 else 1000000000000000), c, d, ?_, by split <;> omega, h2, fun l i hi hl he x y z w => ?_⟩
      · simp only [cu, decide_true, cond_true, p2, hent, kc, w1]
      · rw [aaq l i hi hl _ _ _ _ _ _ _ _ (by rw [he]; exact p1)]
        have q1 : clL (a + 0) = a := by unfold clL; split <;> (try split) <;> omega
        have q2 : clH (b + 1) = (if b + 1 < 1000000000000000 then b + 1 else 1000000000000000) := by unfold clH; split <;> split <;> omega
        simp only [he, hent, cE, cO, decide_true, cond_true, arY (lo := (0 : Int)) (hi := 1) (a := a) (b := b) c d (by omega) (by omega) (by omega) (by omega), q1, q2, w2 i (by omega)]
    | false =>
      refine ⟨a, b, (if 0 < c - 64 then c - 64 else 0), (if d + (v.length : Int) < 1000000000000000 then d + (v.length : Int) else 1000000000000000), ?_, h1, by split <;> split <;> omega, fun l i hi hl he x y z w => ?_⟩
      · simp only [cu, decide_true, cond_true, cond_false, p2, hent, kc, nE, w3, w5]
      · rw [aaq l i hi hl _ _ _ _ _ _ _ _ (by rw [he]; exact p1)]
        have q1 : clL (c + -64) = (if 0 < c - 64 then c - 64 else 0) := by unfold clL; split <;> split <;> (try split) <;> omega
        have q2 : clH (d + (v.length : Int)) = (if d + (v.length : Int) < 1000000000000000 then d + (v.length : Int) else 1000000000000000) := by unfold clH; split <;> split <;> omega
        simp only [he, hent, cE, cO, decide_true, cond_true, cond_false, arZ (lo := (-64 : Int)) (hi := (v.length : Int)) (c := c) (d := d) a b (by omega) (by omega) (by omega) (by omega), q1, q2, w2 i (by omega)]
  · -- Del
    have hkm : gJ 1 k v f t s n = (2, k, [], ([], [], ()), [], [], 0, ()) := rfl
    rw [hkm] at hok ⊢
    have hk : k ∈ keys20 := hok.key (.inr rfl)
    obtain ⟨p1, p2⟩ := arp k hk
    have f1 : (decide ((2 : Int) = 1)) = false := rfl
    cases hent : amT k with
    | true =>
      refine ⟨(if 0 < a - 1 then a - 1 else 0), b, c, d, ?_, by split <;> omega, h2, fun l i hi hl he x y z w => ?_⟩
      · simp only [cu, f1, decide_true, cond_true, cond_false, p2, hent, nE, w4]
      · rw [aaq l i hi hl _ _ _ _ _ _ _ _ (by rw [he]; exact p1)]
        have q1 : clL (a + -1) = (if 0 < a - 1 then a - 1 else 0) := by unfold clL; split <;> split <;> (try split) <;> omega
        have q2 : clH (b + 0) = b := by unfold clH; split <;> omega
        simp only [he, hent, cE, cO, eO, f1, decide_true, cond_true, cond_false, arY (lo := (-1 : Int)) (hi := 0) (a := a) (b := b) c d (by omega) (by omega) (by omega) (by omega), q1, q2, w2 i (by omega)]
    | false =>
      refine ⟨a, b, (if 0 < c - 64 then c - 64 else 0), d, ?_, h1, by split <;> omega, fun l i hi hl he x y z w => ?_⟩
      · simp only [cu, f1, decide_true, cond_true, cond_false, p2, hent, nE, w3]
      · rw [aaq l i hi hl _ _ _ _ _ _ _ _ (by rw [he]; exact p1)]
        have q1 : clL (c + -64) = (if 0 < c - 64 then c - 64 else 0) := by unfold clL; split <;> split <;> (try split) <;> omega
        have q2 : clH (d + 0) = d := by unfold clH; split <;> omega
        simp only [he, hent, cE, cO, eO, f1, decide_true, cond_true, cond_false, arZ (lo := (-64 : Int)) (hi := 0) (c := c) (d := d) a b (by omega) (by omega) (by omega) (by omega), q1, q2, w2 i (by omega)]
  · -- Drop
    have hkm : gJ 2 k v f t s n = (3, [], [], s, [], [], 0, ()) := rfl
    rw [hkm] at hok ⊢
    have f1 : (decide ((3 : Int) = 1)) = false := rfl
    have f2 : (decide ((3 : Int) = 2)) = false := rfl
    have f6 : (decide ((3 : Int) = 6)) = false := rfl
    refine ⟨0, b, 0, d, ?_, by omega, by omega, fun l i hi hl he x y z w => ?_⟩
    · simp only [cu, f1, f2, f6, decide_true, cond_true, cond_false]
    · rw [aaq l i hi hl _ _ _ _ _ _ _ _ (by rw [he]; exact agb)]
      have q1 : clL (a + -1000000000000000) = 0 := by unfold clL; split <;> (try split) <;> omega
      have q2 : clH (b + 0) = b := by unfold clH; split <;> omega
      have q3 : clL (c + -1000000000000000) = 0 := by unfold clL; split <;> (try split) <;> omega
      have q4 : clH (d + 0) = d := by unfold clH; split <;> omega
      simp only [he, cE, cO, eO, f1, f2, f6, decide_true, cond_true, cond_false, amz (lo := (-1000000000000000 : Int)) (hi := 0) (a := a) (b := b) (c := c) (d := d) (by omega) (by omega) (by omega) (by omega) (by omega) (by omega), q1, q2, q3, q4, w2 i (by omega)]
  · -- Move
    have hkm : gJ 3 k v f t s n = (4, [], [], ([], [], ()), f, t, 0, ()) := rfl
    rw [hkm] at hok ⊢
    obtain ⟨al, g1, g2⟩ := ard f (hok.from_ (.inl rfl)) t (hok.to_ (.inl rfl))
    have f1 : (decide ((4 : Int) = 1)) = false := rfl
    have f2 : (decide ((4 : Int) = 2)) = false := rfl
    have f3 : (decide ((4 : Int) = 3)) = false := rfl
    have f5 : (decide ((4 : Int) = 5)) = false := rfl
    have f6 : (decide ((4 : Int) = 6)) = false := rfl
    have q1 : clL (a + -1000000000000000) = 0 := by unfold clL; split <;> (try split) <;> omega
    have q3 : clL (c + -1000000000000000) = 0 := by unfold clL; split <;> (try split) <;> omega
    cases al with
    | false =>
      refine ⟨0, 1000000000000000, 0, 1000000000000000, ?_, by omega, by omega, fun l i hi hl he x y z w => ?_⟩
      · simp only [cu, f1, f2, f3, f6, cond_false, g2, Bool.not_false, cond_true]
      · rw [aaq l i hi hl _ _ _ _ _ _ _ _ (by rw [he]; exact agb)]
        have q2 : clH (b + 1000000000000000) = 1000000000000000 := by unfold clH; split <;> omega
        have q4 : clH (d + 1000000000000000) = 1000000000000000 := by unfold clH; split <;> omega
        simp only [he, cE, cO, eO, f1, f2, f3, f6, g1, Bool.not_false, cond_true, cond_false, amz (lo := (-1000000000000000 : Int)) (hi := 1000000000000000) (a := a) (b := b) (c := c) (d := d) (by omega) (by omega) (by omega) (by omega) (by omega) (by omega), q1, q2, q3, q4, w2 i (by omega)]
    | true =>
      refine ⟨0, b, 0, d, ?_, by omega, by omega, fun l i hi hl he x y z w => ?_⟩
      · simp only [cu, f1, f2, f3, f5, f6, cond_false, g2, Bool.not_true]
      · rw [aaq l i hi hl _ _ _ _ _ _ _ _ (by rw [he]; exact agb)]
        have q2 : clH (b + 0) = b := by unfold clH; split <;> omega
        have q4 : clH (d + 0) = d := by unfold clH; split <;> omega
        simp only [he, cE, cO, eO, f1, f2, f3, f5, f6, g1, Bool.not_true, cond_true, cond_false, amz (lo := (-1000000000000000 : Int)) (hi := 0) (a := a) (b := b) (c := c) (d := d) (by omega) (by omega) (by omega) (by omega) (by omega) (by omega), q1, q2, q3, q4, w2 i (by omega)]
  · -- Clone
    have hkm : gJ 4 k v f t s n = (5, [], [], ([], [], ()), f, t, 0, ()) := rfl
    rw [hkm] at hok ⊢
    obtain ⟨al, g1, g2⟩ := ard f (hok.from_ (.inr rfl)) t (hok.to_ (.inr rfl))
    have f1 : (decide ((5 : Int) = 1)) = false := rfl
    have f2 : (decide ((5 : Int) = 2)) = false := rfl
    have f3 : (decide ((5 : Int) = 3)) = false := rfl
    have f6 : (decide ((5 : Int) = 6)) = false := rfl
    have q1 : clL (a + -1000000000000000) = 0 := by unfold clL; split <;> (try split) <;> omega
    have q3 : clL (c + -1000000000000000) = 0 := by unfold clL; split <;> (try split) <;> omega
    cases al with
    | false =>
      refine ⟨0, 1000000000000000, 0, 1000000000000000, ?_, by omega, by omega, fun l i hi hl he x y z w => ?_⟩
      · simp only [cu, f1, f2, f3, f6, cond_false, g2, Bool.not_false, cond_true]
      · rw [aaq l i hi hl _ _ _ _ _ _ _ _ (by rw [he]; exact agb)]
        have q2 : clH (b + 1000000000000000) = 1000000000000000 := by unfold clH; split <;> omega
        have q4 : clH (d + 1000000000000000) = 1000000000000000 := by unfold clH; split <;> omega
        simp only [he, cE, cO, eO, f1, f2, f3, f6, g1, Bool.not_false, cond_true, cond_false, amz (lo := (-1000000000000000 : Int)) (hi := 1000000000000000) (a := a) (b := b) (c := c) (d := d) (by omega) (by omega) (by omega) (by omega) (by omega) (by omega), q1, q2, q3, q4, w2 i (by omega)]
    | true =>
      have w6 : IntKind.i64.wrap (b + b) = b + b := cI (by omega)
      have w7 : IntKind.i64.wrap (d + d) = d + d := cI (by omega)
      refine ⟨0, (if b + b < 1000000000000000 then b + b else 1000000000000000), 0, (if d + d < 1000000000000000 then d + d else 1000000000000000), ?_, by split <;> omega, by split <;> omega, fun l i hi hl he x y z w => ?_⟩
      · simp only [cu, f1, f2, f3, f6, cond_false, g2, Bool.not_true, decide_true, cond_true, kc, w6, w7]
      · rw [aaq l i hi hl _ _ _ _ _ _ _ _ (by rw [he]; exact agb)]
        have q2 : clH (b + b) = (if b + b < 1000000000000000 then b + b else 1000000000000000) := by unfold clH; split <;> split <;> omega
        have q4 : clH (d + d) = (if d + d < 1000000000000000 then d + d else 1000000000000000) := by unfold clH; split <;> split <;> omega
        simp only [he, cE, cO, eO, f1, f2, f3, f6, g1, Bool.not_true, decide_true, cond_true, cond_false, arY (lo := (-1000000000000000 : Int)) (hi := b) (a := a) (b := b) c d (by omega) (by omega) (by omega) (by omega), arZ (lo := (-1000000000000000 : Int)) (hi := d) (c := c) (d := d) 0 (if b + b < 1000000000000000 then b + b else 1000000000000000) (by omega) (by omega) (by omega) (by omega), q1, q2, q3, q4, w2 i (by omega)]
  · -- Stamp
    have hkm : gJ 5 k v f t s n = (6, [], [], s, [], [], n, ()) := rfl
    rw [hkm] at hok ⊢
    have f1 : (decide ((6 : Int) = 1)) = false := rfl
    have f2 : (decide ((6 : Int) = 2)) = false := rfl
    have f3 : (decide ((6 : Int) = 3)) = false := rfl
    refine ⟨a, b, c, d, ?_, h1, h2, fun l i hi hl he x y z w => ?_⟩
    · simp only [cu, f1, f2, decide_true, cond_true, cond_false]
    · rw [aaq l i hi hl _ _ _ _ _ _ _ _ (by rw [he]; exact agb)]
      simp only [he, cE, cO, eO, f1, f2, f3, decide_true, cond_true, cond_false, w2 i (by omega)]
def amM (x : Int) : Int := if x < 1000000000000000 then x else 1000000000000000
def apE (s t : api_Sum) : api_Sum := ((amM (s.1.1 + t.1.1), (amM (s.1.2.1 + t.1.2.1), ())), ((amM (s.2.1.1 + t.2.1.1), (amM (s.2.1.2.1 + t.2.1.2.1), ())), ()))
theorem av5 {s t : api_Sum} (hs : InS s) (ht : InS t) : InS (apE s t) := by
  obtain ⟨⟨a1, a2, a3⟩, a4, a5, a6⟩ := hs
  obtain ⟨⟨b1, b2, b3⟩, b4, b5, b6⟩ := ht
  refine ⟨⟨?_, ?_, ?_⟩, ?_, ?_, ?_⟩ <;> simp only [apE, amM]
  · split <;> omega
  · split <;> split <;> omega
  · split <;> omega
  · split <;> omega
  · split <;> split <;> omega
  · split <;> omega
theorem auP {s t : api_Sum} (hs : InS s) (ht : InS t) : yO (s, t, ()) = some (apE s t, ()) := by
  obtain ⟨⟨a1, a2, a3⟩, a4, a5, a6⟩ := hs
  obtain ⟨⟨b1, b2, b3⟩, b4, b5, b6⟩ := ht
  have e1 : IntKind.i64.wrap (s.1.1 + t.1.1) = s.1.1 + t.1.1 := cI (by omega)
  have e2 : IntKind.i64.wrap (s.1.2.1 + t.1.2.1) = s.1.2.1 + t.1.2.1 := cI (by omega)
  have e3 : IntKind.i64.wrap (s.2.1.1 + t.2.1.1) = s.2.1.1 + t.2.1.1 := cI (by omega)
  have e4 : IntKind.i64.wrap (s.2.1.2.1 + t.2.1.2.1) = s.2.1.2.1 + t.2.1.2.1 := cI (by omega)
  simp only [yO, e1, e2, e3, e4]
  rfl
theorem avr {x : Int} (h : 0 <= x) : clL x = amM x := by
  unfold clL amM
  split <;> (try split) <;> (try split) <;> omega
theorem avq {x : Int} : clH x = amM x := by
  unfold clH amM
  split <;> split <;> omega
def amE (s : api_Sum) (m : ag) : api_Sum := ((cu (s, m, ())).map (·.1)).getD sum0
theorem aqe {s : api_Sum} {m : ag} (hs : InS s) (hm : MadeM m) : cu (s, m, ()) = some (amE s m, ()) /\ InS (amE s m) /\ ∀ (l : List ag) (i : Nat) (hi : i < l.length) (hl : l.length <= 1000000) (he : l[i] = m) (x y z w : Int),
    nC (l, (l.length : Int), (i : Int), x, y, z, w, s.1.1, s.1.2.1, s.2.1.1, s.2.1.2.1, ()) = some (.inl (l, (l.length : Int), ((i + 1 : Nat) : Int), x, y, z, w, (amE s m).1.1, (amE s m).1.2.1, (amE s m).2.1.1, (amE s m).2.1.2.1, ())) := by
  obtain ⟨⟨a, b, u1⟩, ⟨c, d, u2⟩, u3⟩ := s
  obtain ⟨a', b', c', d', h1, h2, h3, h4⟩ := avR hm a b c d hs.1 hs.2
  have e : amE ((a, (b, ())), ((c, (d, ())), ())) m = ((a', (b', ())), ((c', (d', ())), ())) := by
    unfold amE
    rw [h1]
    rfl
  rw [e]
  exact ⟨h1, ⟨h2, h3⟩, h4⟩
theorem atP {n : api_Node} (h0 : n.2.2.1 ≠ []) (hs : ∀ s ∈ n.2.2.2.1, InS s) (hsl : n.2.2.2.1.length <= 1000) (hb : ∀ m ∈ n.2.2.2.2.1, MadeM m) (hbl : n.2.2.2.2.1.length <= 1000) :
    ∃ s, yC (n, ()) = some (s, ()) /\ jt (n, ()) = some (s, ()) /\ InS s := by
  have e0 : (decide ((((List.length n.2.2.1) : Int) : Int) = (0 : Int))) = false := bu (by
    have := List.length_pos_iff.2 h0
    omega)
  obtain ⟨S, hS⟩ : ∃ S, n.2.2.2.1 = S := ⟨_, rfl⟩
  obtain ⟨M, hM⟩ : ∃ M, n.2.2.2.2.1 = M := ⟨_, rfl⟩
  rw [hS] at hs hsl
  rw [hM] at hb hbl
  let F : Nat -> api_Sum := fun i => (S.take i).foldl apE sum0
  have hF : ∀ i, (hi : i < S.length) -> F (i + 1) = apE (F i) S[i] := fun i hi => by
    show (S.take (i + 1)).foldl apE sum0 = _
    rw [uS hi, List.foldl_append]
    rfl
  have hFI : ∀ i, i <= S.length -> InS (F i) := by
    intro i
    induction i with
    | zero =>
      intro _
      show InS sum0
      exact ⟨⟨Int.le_refl _, Int.le_refl _, by decide⟩, Int.le_refl _, Int.le_refl _, by decide⟩
    | succ i ih => intro hi; rw [hF i (by omega)]; exact av5 (ih (by omega)) (hs _ (List.getElem_mem (by omega)))
  let G : Nat -> api_Sum := fun i => (M.take i).foldl amE (F S.length)
  have hG : ∀ i, (hi : i < M.length) -> G (i + 1) = amE (G i) M[i] := fun i hi => by
    show (M.take (i + 1)).foldl amE _ = _
    rw [uS hi, List.foldl_append]
    rfl
  have hGI : ∀ i, i <= M.length -> InS (G i) := by
    intro i
    induction i with
    | zero => intro _; exact hFI _ (Nat.le_refl _)
    | succ i ih => intro hi; rw [hG i (by omega)]; exact (aqe (ih (by omega)) (hb _ (List.getElem_mem (by omega)))).2.1
  have g1 : aeY (S, (S.length : Int), 0, n, 0, 0, 0, 0, 0, 0, 0, 0, ()) = some (.inl (n, 0, 0, 0, 0, (F S.length).1.1, (F S.length).1.2.1, (F S.length).2.1.1, (F S.length).2.1.2.1, ())) := by
    obtain ⟨z, g1, rfl⟩ := bQ (b := vE) (fun i (q : api_Sum) => (S, (S.length : Int), (i : Int), n, 0, 0, 0, 0, q.1.1, q.1.2.1, q.2.1.1, q.2.1.2.1, ())) S.length (fun i q => q = F i) (fun z => z = .inl (n, 0, 0, 0, 0, (F S.length).1.1, (F S.length).1.2.1, (F S.length).2.1.1, (F S.length).2.1.2.1, ())) (by omega)
      (fun i hi q hq => by
        left
        subst hq
        obtain ⟨⟨a1, a2, a3⟩, a4, a5, a6⟩ := hFI i (by omega)
        obtain ⟨⟨b1, b2, b3⟩, b4, b5, b6⟩ := hs _ (List.getElem_mem hi)
        have e1 := dlt (i := i) (l := S) (by omega)
        have e2 := dzz i
        have e3 := wr1 i (by omega)
        have e4 := arY (lo := S[i].1.1) (hi := S[i].1.2.1) (a := (F i).1.1) (b := (F i).1.2.1) (F i).2.1.1 (F i).2.1.2.1 (by omega) (by omega) (by omega) (by omega)
        have e5 := arZ (lo := S[i].2.1.1) (hi := S[i].2.1.2.1) (c := (F i).2.1.1) (d := (F i).2.1.2.1) (amM ((F i).1.1 + S[i].1.1)) (amM ((F i).1.2.1 + S[i].1.2.1)) (by omega) (by omega) (by omega) (by omega)
        rw [avr (by omega), avq] at e4 e5
        refine ⟨F (i + 1), rfl, ?_⟩
        rw [hF i hi]
        simp only [vE, e1, e2, cond_true, Bool.and_self, Int.toNat_natCast, aX hi, e4, e5, e3]
        rfl)
      (fun q hq => by
        subst hq
        have e1 := dnl S
        exact ⟨_, rfl, by simp only [vE, e1, cond_false]⟩) sum0 rfl
    exact g1
  have g2 : xe (0, n, 0, 0, 0, 0, sum0, ()) = some (.inl (n, 0, 0, 0, 0, F S.length, ())) := by
    obtain ⟨z, g1, rfl⟩ := bQ (b := mf) (fun i (q : api_Sum) => ((i : Int), n, 0, 0, 0, 0, q, ())) S.length (fun i q => q = F i) (fun z => z = .inl (n, 0, 0, 0, 0, F S.length, ())) (by omega)
      (fun i hi q hq => by
        left
        subst hq
        have e1 := dlt (i := i) (l := S) (by omega)
        have e2 := dzz i
        have e3 := wr1 i (by omega)
        refine ⟨F (i + 1), rfl, ?_⟩
        simp only [mf, hS, e1, e2, cond_true, Bool.and_self, Int.toNat_natCast, aX hi, auP (hFI i (by omega)) (hs _ (List.getElem_mem hi)), e3, hF i hi])
      (fun q hq => by
        subst hq
        have e1 := dnl S
        exact ⟨_, rfl, by simp only [mf, hS, e1, cond_false]⟩) sum0 rfl
    exact g1
  have g3 : aeZ (M, (M.length : Int), 0, 0, 0, 0, 0, (F S.length).1.1, (F S.length).1.2.1, (F S.length).2.1.1, (F S.length).2.1.2.1, ()) = some (.inl (0, 0, 0, 0, (G M.length).1.1, (G M.length).1.2.1, (G M.length).2.1.1, (G M.length).2.1.2.1, ())) := by
    obtain ⟨z, g1, rfl⟩ := bQ (b := nC) (fun i (q : api_Sum) => (M, (M.length : Int), (i : Int), 0, 0, 0, 0, q.1.1, q.1.2.1, q.2.1.1, q.2.1.2.1, ())) M.length (fun i q => q = G i) (fun z => z = .inl (0, 0, 0, 0, (G M.length).1.1, (G M.length).1.2.1, (G M.length).2.1.1, (G M.length).2.1.2.1, ())) (by omega)
      (fun i hi q hq => by
        left
        subst hq
        have h := (aqe (hGI i (by omega)) (hb _ (List.getElem_mem hi))).2.2 M i hi (by omega) rfl 0 0 0 0
        refine ⟨G (i + 1), rfl, ?_⟩
        rw [hG i hi]
        exact h)
      (fun q hq => by
        subst hq
        have e1 := dnl M
        exact ⟨_, rfl, by simp only [nC, e1, cond_false]⟩) (F S.length) rfl
    exact g1
  have g4 : xf (0, n, 0, 0, 0, 0, F S.length, ()) = some (.inl (0, 0, 0, 0, G M.length, ())) := by
    obtain ⟨z, g1, rfl⟩ := bQ (b := mg) (fun i (q : api_Sum) => ((i : Int), n, 0, 0, 0, 0, q, ())) M.length (fun i q => q = G i) (fun z => z = .inl (0, 0, 0, 0, G M.length, ())) (by omega)
      (fun i hi q hq => by
        left
        subst hq
        have e1 := dlt (i := i) (l := M) (by omega)
        have e2 := dzz i
        have e3 := wr1 i (by omega)
        refine ⟨G (i + 1), rfl, ?_⟩
        simp only [mg, hM, e1, e2, cond_true, Bool.and_self, Int.toNat_natCast, aX hi, (aqe (hGI i (by omega)) (hb _ (List.getElem_mem hi))).1, e3, hG i hi])
      (fun q hq => by
        subst hq
        have e1 := dnl M
        exact ⟨_, rfl, by simp only [mg, hM, e1, cond_false]⟩) (F S.length) rfl
    exact g1
  refine ⟨G M.length, ?_, ?_, hGI _ (Nat.le_refl _)⟩
  · simp only [yC, e0, cond_false, hS, g1, hM, g3]
  · simp only [jt, e0, cond_false, g2, g4]
abbrev pk : ae -> List UInt8 := fun p => p.1
theorem att (p : ae) : ∀ t : List ae, Srt pk t -> Srt pk (ins p t)
  | [], _ => List.pairwise_singleton _ _
  | x :: t, h => by
    unfold ins
    cases hb : Op.bytesLess x.1 p.1 with
    | true =>
      rw [cond_true]
      refine List.pairwise_cons.2 ⟨fun y hy => ?_, att p t h.tail⟩
      rcases aqp p y t hy with rfl | hy
      · exact hb
      · exact h.head y hy
    | false =>
      rw [cond_false]
      refine List.pairwise_cons.2 ⟨fun y hy => ?_, List.Pairwise.filter _ h⟩
      obtain ⟨h1, h2⟩ := List.mem_filter.1 hy
      have hne : y.1 ≠ p.1 := by simpa using h2
      have hxy : Op.bytesLess y.1 x.1 = false := by
        rcases List.mem_cons.1 h1 with rfl | h1
        · exact pQ _
        · exact abh (h.head y h1)
      show Op.bytesLess p.1 y.1 = true
      rcases sJ p.1 y.1 with h3 | h3 | h3
      · exact h3
      · exact absurd h3.symm hne
      · -- y below p, p not above x: y below x
        rcases sJ p.1 x.1 with h4 | h4 | h4
        · rw [abi h3 h4] at hxy; cases hxy
        · rw [h4] at h3; rw [h3] at hxy; cases hxy
        · rw [h4] at hb; cases hb
theorem aul (l : List aP) : Srt pk (zO l) := by
  have key : ∀ (l : List aP) (t : List ae), Srt pk t -> Srt pk (l.foldl (fun t x => ins (wx x) t) t) := by
    intro l
    induction l with
    | nil => intro t h; exact h
    | cons x l ih => intro t h; exact ih _ (att _ _ h)
  exact key l [] List.Pairwise.nil
theorem yQ (s : aa) (k : List UInt8) : uh (s, k, ()) = some (agu s k, ()) := by
  simp only [uh, agu]
  cases h1 : Op.bytesLess k s.1
  · cases h2 : decide (s.2.1 = [])
    · simp only [Bool.not_false, cond_true, Bool.true_and, Bool.false_or]
    · simp only [Bool.not_false, Bool.not_true, cond_true, cond_false, Bool.true_and, Bool.true_or]
  · simp only [Bool.not_true, cond_false, Bool.false_and]
structure TabOK (t : List ae) : Prop where
  len : t.length <= 1000
  srt : Srt pk t
  key : ∀ p ∈ t, 1 <= p.1.length /\ p.1.length <= 65535
  val : ∀ p ∈ t, p.2.1.length <= 64
  stamp : ∀ p ∈ t, 0 <= p.2.2.1 /\ p.2.2.1 <= 1000000000
  chg : ∀ p ∈ t, PcOK p
theorem asj (n : Int) : (avk n).length <= 4 := by
  unfold avk
  obtain ⟨m, hm⟩ : ∃ m, (n % 4).toNat = m := ⟨_, rfl⟩
  have : m < 4 := by omega
  rw [hm]
  match m, this with
  | 0, _ => decide
  | 1, _ => decide
  | 2, _ => decide
  | 3, _ => decide
theorem asa (l : List aP) (h : ∀ x ∈ l, raw24 x) (hl : l.length <= 1000) : TabOK (zO l) := by
  have hm : ∀ p ∈ zO l, ∃ y, raw24 y /\ p = wx y := fun p hp => by
    obtain ⟨y, hy, e⟩ := apM l p hp
    exact ⟨y, h y hy, e⟩
  refine ⟨Nat.le_trans (akM l) hl, aul l, fun p hp => ?_, fun p hp => ?_, fun p hp => ?_, fun p hp => ?_⟩
  · obtain ⟨y, hy, rfl⟩ := hm p hp
    obtain ⟨-, k2, k3⟩ := ani y.1 hy.1.1 hy.1.2
    show 1 <= (yd y.1).length /\ (yd y.1).length <= 65535
    omega
  · obtain ⟨y, hy, rfl⟩ := hm p hp
    have := asj y.2.1
    show (avk y.2.1).length <= 64
    omega
  · obtain ⟨y, hy, rfl⟩ := hm p hp
    show 0 <= y.2.2.1 % 4 /\ y.2.2.1 % 4 <= 1000000000
    omega
  · obtain ⟨y, hy, rfl⟩ := hm p hp
    have c := awk y.1 hy.1.1 hy.1.2
    have := asj y.2.1
    exact ⟨c.1, c.2, by show (avk y.2.1).length <= 64; omega⟩
theorem TabOK.inS {t : List ae} (h : TabOK t) (s : aa) : TabOK (inS s t) :=
  ⟨Nat.le_trans (aql s t) h.len, List.Pairwise.filter _ h.srt, fun p hp => h.key p (List.mem_filter.1 hp).1, fun p hp => h.val p (List.mem_filter.1 hp).1, fun p hp => h.stamp p (List.mem_filter.1 hp).1, fun p hp => h.chg p (List.mem_filter.1 hp).1⟩
theorem apu (t : List ae) (hs : Srt pk t) (hl : t.length <= 1000000) : zR (t, ()) = some (true, ()) := by
  obtain ⟨z, h1, rfl⟩ := bQ (b := qq) (fun i (_ : Unit) => (t, ((i + 1 : Nat) : Int), ())) (t.length - 1) (fun _ _ => True) (fun z => z = .inr ()) (by omega)
    (fun i hi _ _ => by
      left
      have e0 : IntKind.i64.wrap (((i + 1 : Nat) : Int) - 1) = (i : Int) := by rw [cI (by omega)]; omega
      have e1 : (decide (((i + 1 : Nat) : Int) < ((List.length t) : Int))) = true := aJ (by omega)
      have e2 := dzz i
      have e3 := dlt (i := i) (l := t) (by omega)
      have e4 : (decide ((0 : Int) <= ((i + 1 : Nat) : Int))) = true := aJ (by omega)
      have e5 : IntKind.i64.wrap (((i + 1 : Nat) : Int) + 1) = ((i + 1 + 1 : Nat) : Int) := by rw [cI (by omega)]; omega
      have hi1 : i < t.length := by omega
      have hi2 : i + 1 < t.length := by omega
      have e6 : Op.bytesLess t[i].1 t[i + 1].1 = true := List.pairwise_iff_getElem.1 hs _ _ hi1 hi2 (by omega)
      exact ⟨(), trivial, by simp only [qq, e0, e1, e2, e3, e4, cond_true, cond_false, Bool.and_self, Int.toNat_natCast, aX hi1, aX hi2, e6, Bool.not_true, e5]⟩)
    (fun _ _ => by
      have e1 : (decide (((t.length - 1 + 1 : Nat) : Int) < ((List.length t) : Int))) = false := bu (by omega)
      exact ⟨_, rfl, by simp only [qq, e1, cond_false]⟩) () trivial
  have h1' : yW (t, (1 : Int), ()) = some (.inr ()) := h1
  simp only [zR, h1']
theorem arW {p : ae} (h1 : 1 <= p.1.length /\ p.1.length <= 65535) (h2 : p.2.1.length <= 64) (h3 : 0 <= p.2.2.1 /\ p.2.2.1 <= 1000000000) : ve (p, ()) = some (true, ()) := by
  have e1 : (decide ((((List.length p.1) : Int) : Int) >= (1 : Int))) = true := aJ (by omega)
  have e2 : (decide ((((List.length p.1) : Int) : Int) <= (65535 : Int))) = true := aJ (by omega)
  have e3 : (decide ((((List.length p.2.1) : Int) : Int) <= (64 : Int))) = true := aJ (by omega)
  have e4 : (decide ((p.2.2.1 : Int) >= (0 : Int))) = true := aJ h3.1
  have e5 : (decide ((p.2.2.1 : Int) <= (1000000000 : Int))) = true := aJ h3.2
  simp only [ve, e1, e2, e3, e4, e5, cond_true]
theorem asF {t : List ae} (ht : TabOK t) (s : aa) : ix ((inS s t, [], [], [], [], ()), s, ()) = some (true, ()) := by
  have hT := ht.inS s
  obtain ⟨T, hTe⟩ : ∃ T, inS s t = T := ⟨_, rfl⟩
  have hhas : ∀ p ∈ T, agu s p.1 = true := fun p hp => by rw [<- hTe] at hp; exact (List.mem_filter.1 hp).2
  rw [hTe] at hT ⊢
  obtain ⟨z, h1, rfl⟩ := bQ (b := bE) (fun i (_ : Unit) => (T, (T.length : Int), (i : Int), s, ())) T.length (fun _ _ => True) (fun z => z = .inr (s, ())) (by have := hT.len; omega)
    (fun i hi _ _ => by
      left
      have hl := hT.len
      have e1 := dlt (i := i) (l := T) (by omega)
      have e2 := dzz i
      have e3 := wr1 i (by omega)
      have hm := List.getElem_mem hi
      have e4 := arW (hT.key _ hm) (hT.val _ hm) (hT.stamp _ hm)
      exact ⟨(), trivial, by simp only [bE, e1, e2, cond_true, cond_false, Bool.and_self, Int.toNat_natCast, aX hi, ac2, e4, Bool.not_true, Bool.not_false, yQ, hhas _ hm, e3]⟩)
    (fun _ _ => by
      have e1 := dnl T
      exact ⟨_, rfl, by simp only [bE, e1, cond_false]⟩) () trivial
  have h1' : dg (T, (T.length : Int), 0, s, ()) = some (.inr (s, ())) := h1
  have h2 := apu T hT.srt (by have := hT.len; omega)
  have e0 : (decide ((((List.length ([] : List Int)) : Int) : Int) = (0 : Int))) = true := rfl
  have e1 : (decide (IntKind.i64.wrap (IntKind.i64.wrap (((List.length ([] : List (List UInt8))) : Int) + ((List.length ([] : List api_Sum)) : Int)) + ((List.length ([] : List ag)) : Int)) = (0 : Int))) = true := rfl
  have e2 : (decide ((-1 : Int) >= (0 : Int))) = false := rfl
  simp only [ix, e0, e1, cond_true, h2, dU, dV, h1', e2, Bool.not_false]
theorem rN : ∀ (t : Ty) (x : t.den), Ty.eqb t x x = true
  | .bool, x => by simp [Ty.eqb]
  | .int _, x => by simp [Ty.eqb]
  | .str, x => by simp [Ty.eqb]
  | .pair a b, x => by simp [Ty.eqb, rN a, rN b]
  | .list _, _ => rfl
  | .unit, _ => rfl
  | .opq, _ => rfl
theorem aqM {s : aa} (h : spanOK s) : jD (s, ()) = some (false, ()) := by
  unfold jD
  rcases h with h | h
  · simp only [h, decide_true, Bool.not_true, cond_false]
  · have h2 := abh h
    have h3 : ¬ s.2.1 = s.1 := fun e => by rw [e, pQ] at h; cases h
    simp only [h2, bu h3, Bool.or_false]
    cases (!decide (s.2.1 = ([] : List UInt8))) <;> rfl
theorem ap9 {a b c : Int} (h1 : b <= a) (h2 : a <= c) : acz (a, b, c, ()) = some (true, ()) := by
  simp only [acz, aJ h1, aJ h2, cond_true]
theorem auQ (a b : List UInt8) : bV (a, b, ()) = some (bgn a b, ()) := by
  unfold bgn
  by_cases h : b.length <= a.length
  · have c1 : ((a.length : Int) >= (b.length : Int)) := by omega
    have c2 : ((0 : Int) <= (b.length : Int)) := by omega
    have c3 : ((b.length : Int) <= (a.length : Int)) := by omega
    simp only [bV, c1, c2, c3, aJ h, aJ, cond_true, Bool.and_self, Int.toNat_natCast, Bool.true_and, List.drop_zero, Int.toNat_zero]
  · have c1 : ¬ ((a.length : Int) >= (b.length : Int)) := by omega
    simp only [bV, c1, bu h, bu, cond_false, Bool.false_and, not_false_eq_true]
theorem anw : ∀ p ∈ paths5, 1 <= p.length /\ p.length <= 200 := by decide
theorem arh {f t : List UInt8} (hf : f ∈ paths5) (ht : t ∈ paths5) (h : bgn f t = false /\ bgn t f = false) : abw (f, t, ()) = some (true, ()) := by
  obtain ⟨a1, a2⟩ := anw f hf
  obtain ⟨b1, b2⟩ := anw t ht
  have e1 := ap9 (a := (f.length : Int)) (b := 1) (c := 200) (by omega) (by omega)
  have e2 := ap9 (a := (t.length : Int)) (b := 1) (c := 200) (by omega) (by omega)
  simp only [abw, e1, e2, cond_true, mq, auQ, h.1, h.2, Bool.not_false]
theorem atp {s : aa} (h : spanOK s) (h1 : s.1.length <= 200) (h2 : s.2.1.length <= 200) : aeV (s, ()) = some (true, ()) := by
  have e : (decide ((if ((List.length s.1 : Int)) < ((List.length s.2.1 : Int)) then ((List.length s.2.1) : Int) else ((List.length s.1) : Int)) <= (65535 : Int))) = true := aJ (by split <;> omega)
  simp only [aeV, aqM h, Bool.not_false, cond_true, e]
theorem aeP : ∀ k ∈ keys20, 1 <= k.length /\ k.length <= 100 := by
  have hlen : keys20.all (fun k => decide (1 <= k.length) && decide (k.length <= 100)) = true := by kernel_rfl
  intro k hk
  have := List.all_eq_true.1 hlen k hk
  simpa using this
theorem amv {k : List UInt8} (h : k ∈ keys20) : yS (k, ()) = some ((k, (k ++ [0], ())), ()) /\ qL (k, ()) = some ((k, (k ++ [0], ())), ()) := by
  have := (aeP k h).2
  have e : (decide (List.length k + List.length ([0] : List UInt8) <= am)) = true := aJ (by rw [bT]; simp; omega)
  exact ⟨by simp only [yS, e, cond_true], by simp only [qL, e, cond_true]⟩
theorem auG {m : ag} (hm : MadeM m) : o6 (m, ()) = some (true, ()) /\ ∃ R W : List aa, qJ (m, ()) = some (R, ()) /\ gz (m, ()) = some (R, ()) /\ nX (m, ()) = some (W, ()) /\ fg (m, ()) = some (W, ()) /\ R.length <= 2 /\ W.length <= 2 := by
  have hok := hm.ok
  obtain ⟨q, k, v, f, t, s, n, rfl, hq, hn, hs1, hs2⟩ := hm.form
  have cases6 : q = 0 \/ q = 1 \/ q = 2 \/ q = 3 \/ q = 4 \/ q = 5 := by omega
  rcases cases6 with rfl | rfl | rfl | rfl | rfl | rfl
  · have hkm : gJ 0 k v f t s n = (1, k, v, ([], [], ()), [], [], n, ()) := rfl
    rw [hkm] at hok ⊢
    have hk : k ∈ keys20 := hok.key (.inl rfl)
    have hv : v.length <= 10 := hok.val rfl
    have e1 := ap9 (a := (k.length : Int)) (b := 1) (c := 65535) (by have := (aeP k hk).1; omega) (by have := (aeP k hk).2; omega)
    have e2 := ap9 (a := n) (b := 0) (c := 1000000000) (by omega) (by omega)
    have e3 : (decide ((((List.length v) : Int) : Int) <= (64 : Int))) = true := aJ (by omega)
    have f4 : (decide ((1 : Int) = 4)) = false := rfl
    have f5 : (decide ((1 : Int) = 5)) = false := rfl
    have f6 : (decide ((1 : Int) = 6)) = false := rfl
    exact ⟨by simp only [o6, aay, decide_true, cond_true, e1, e3, e2, ac0, rN], [], [(k, (k ++ [0], ()))], by simp only [qJ, aax, decide_true, cond_true], by simp only [gz, gf, f4, f5, f6, cond_false], by simp only [nX, yw, decide_true, cond_true, (amv hk).1], by simp only [fg, fh, decide_true, cond_true, (amv hk).2], by simp, by simp⟩
  · have hkm : gJ 1 k v f t s n = (2, k, [], ([], [], ()), [], [], 0, ()) := rfl
    rw [hkm] at hok ⊢
    have hk : k ∈ keys20 := hok.key (.inr rfl)
    have e1 := ap9 (a := (k.length : Int)) (b := 1) (c := 65535) (by have := (aeP k hk).1; omega) (by have := (aeP k hk).2; omega)
    have f1 : (decide ((2 : Int) = 1)) = false := rfl
    have f4 : (decide ((2 : Int) = 4)) = false := rfl
    have f5 : (decide ((2 : Int) = 5)) = false := rfl
    have f6 : (decide ((2 : Int) = 6)) = false := rfl
    exact ⟨by simp only [o6, aau, f1, decide_true, cond_true, cond_false, e1, acy, rN], [], [(k, (k ++ [0], ()))], by simp only [qJ, aat, f1, decide_true, cond_true, cond_false], by simp only [gz, gf, f4, f5, f6, cond_false], by simp only [nX, yn, f1, decide_true, cond_true, cond_false, (amv hk).1], by simp only [fg, fh, f1, decide_true, cond_true, cond_false, (amv hk).2], by simp, by simp⟩
  · have hkm : gJ 2 k v f t s n = (3, [], [], s, [], [], 0, ()) := rfl
    rw [hkm] at hok ⊢
    have hs : spanOK s := hok.span (.inl rfl)
    have e1 := atp hs hs1 hs2
    have f1 : (decide ((3 : Int) = 1)) = false := rfl
    have f2 : (decide ((3 : Int) = 2)) = false := rfl
    have f4 : (decide ((3 : Int) = 4)) = false := rfl
    have f5 : (decide ((3 : Int) = 5)) = false := rfl
    have f6 : (decide ((3 : Int) = 6)) = false := rfl
    exact ⟨by simp only [o6, yq, f1, f2, decide_true, cond_true, cond_false, e1, aav, rN], [], [s], by simp only [qJ, yp, f1, f2, decide_true, cond_true, cond_false], by simp only [gz, gf, f4, f5, f6, cond_false], by simp only [nX, ws, f1, f2, decide_true, cond_true, cond_false], by simp only [fg, fh, f1, f2, f4, f5, cond_false], by simp, by simp⟩
  · have hkm : gJ 3 k v f t s n = (4, [], [], ([], [], ()), f, t, 0, ()) := rfl
    rw [hkm] at hok ⊢
    have hf := hok.from_ (.inl rfl)
    have ht := hok.to_ (.inl rfl)
    have e1 := arh hf ht (hok.apart (.inl rfl))
    obtain ⟨p1, p2, -⟩ := ago f (xn f hf)
    obtain ⟨r1, r2, -⟩ := ago t (xn t ht)
    have f1 : (decide ((4 : Int) = 1)) = false := rfl
    have f2 : (decide ((4 : Int) = 2)) = false := rfl
    have f3 : (decide ((4 : Int) = 3)) = false := rfl
    exact ⟨by simp only [o6, yu, f1, f2, f3, decide_true, cond_true, cond_false, e1, aaw, rN], [air f], [air f, air t], by simp only [qJ, yt, f1, f2, f3, decide_true, cond_true, cond_false, p1], by simp only [gz, gf, decide_true, cond_true, p2], by simp only [nX, wt, f1, f2, f3, decide_true, cond_true, cond_false, p1, r1], by simp only [fg, fh, f1, f2, decide_true, cond_true, cond_false, p2, r2], by simp, by simp⟩
  · have hkm : gJ 4 k v f t s n = (5, [], [], ([], [], ()), f, t, 0, ()) := rfl
    rw [hkm] at hok ⊢
    have hf := hok.from_ (.inr rfl)
    have ht := hok.to_ (.inr rfl)
    have e1 := arh hf ht (hok.apart (.inr rfl))
    obtain ⟨p1, p2, -⟩ := ago f (xn f hf)
    obtain ⟨r1, r2, -⟩ := ago t (xn t ht)
    have f1 : (decide ((5 : Int) = 1)) = false := rfl
    have f2 : (decide ((5 : Int) = 2)) = false := rfl
    have f3 : (decide ((5 : Int) = 3)) = false := rfl
    have f4 : (decide ((5 : Int) = 4)) = false := rfl
    exact ⟨by simp only [o6, wq, f1, f2, f3, f4, decide_true, cond_true, cond_false, e1, yk, rN], [air f], [air t], by simp only [qJ, wp, f1, f2, f3, f4, decide_true, cond_true, cond_false, p1], by simp only [gz, gf, f4, decide_true, cond_true, cond_false, p2], by simp only [nX, uI, f1, f2, f3, f4, decide_true, cond_true, cond_false, r1], by simp only [fg, fh, f1, f2, f4, decide_true, cond_true, cond_false, r2], by simp, by simp⟩
  · have hkm : gJ 5 k v f t s n = (6, [], [], s, [], [], n, ()) := rfl
    rw [hkm] at hok ⊢
    have hs : spanOK s := hok.span (.inr rfl)
    have e1 := atp hs hs1 hs2
    have e2 := ap9 (a := n) (b := 0) (c := 1000000000) (by omega) (by omega)
    have f1 : (decide ((6 : Int) = 1)) = false := rfl
    have f2 : (decide ((6 : Int) = 2)) = false := rfl
    have f3 : (decide ((6 : Int) = 3)) = false := rfl
    have f4 : (decide ((6 : Int) = 4)) = false := rfl
    have f5 : (decide ((6 : Int) = 5)) = false := rfl
    exact ⟨by simp only [o6, wv, f1, f2, f3, f4, f5, decide_true, cond_true, cond_false, e1, e2, y7, rN], [s], [s], by simp only [qJ, wu, f1, f2, f3, f4, f5, decide_true, cond_true, cond_false], by simp only [gz, gf, f4, f5, decide_true, cond_true, cond_false], by simp only [nX, uJ, f1, f2, f3, f4, f5, decide_true, cond_true, cond_false], by simp only [fg, fh, f1, f2, f4, f5, cond_false], by simp, by simp⟩
theorem asy {s x : aa} (h : jY (s, x, ()) = some (true, ())) : jg (s, x, ()) = some (true, ()) := by
  have hE : ∀ y : aa, kj (y, ()) = jD (y, ()) := fun y => rfl
  obtain ⟨ex, hex⟩ : ∃ e, kj (x, ()) = some (e, ()) := abk x
  obtain ⟨es, hes⟩ : ∃ e, kj (s, ()) = some (e, ()) := abk s
  have hex2 := (hE x).symm.trans hex
  cases ex with
  | true => simp only [jg, hex2, Bool.not_true, cond_false]
  | false =>
    cases es with
    | true => simp only [jY, hex, hes, Bool.not_false, Bool.not_true, cond_true, cond_false] at h; cases h
    | false =>
      simp only [jY, hex, hes, Bool.not_false, cond_true] at h
      cases hlo : (Op.bytesLess s.1 x.1 || decide ((s.1 : List UInt8) = x.1)) with
      | false => rw [hlo] at h; cases h
      | true =>
        rw [hlo] at h
        simp only [cond_true] at h
        have hlo2 : Op.bytesLess x.1 s.1 = false := by
          rcases Bool.or_eq_true_iff.1 hlo with h1 | h1
          · exact abh h1
          · rw [of_decide_eq_true h1]; exact pQ _
        -- the end of x: not before its start
        by_cases hs : s.2.1 = []
        · have hh : agu s x.1 = true := by unfold agu; rw [hlo2, aJ hs]; rfl
          by_cases hx : x.2.1 = []
          · have e1 : (decide ((s.2.1 : List UInt8) = x.2.1)) = true := aJ (by rw [hs, hx])
            simp only [jg, hex2, Bool.not_false, cond_true, yQ, hh, fC, e1]
            rfl
          · have e1 : (decide ((s.2.1 : List UInt8) = x.2.1)) = false := bu (by rw [hs]; exact fun h => hx h.symm)
            simp only [jg, hex2, Bool.not_false, cond_true, cond_false, yQ, hh, fC, e1, aJ hs]
            rfl
        · by_cases hx : x.2.1 = []
          · simp only [sw, bu hs, Bool.not_false, cond_true, aJ hx, Bool.not_true, cond_false] at h
            cases h
          · simp only [sw, bu hs, bu hx, Bool.not_false, cond_true] at h
            have hhi : Op.bytesLess s.2.1 x.2.1 = false := by
              cases hb : Op.bytesLess s.2.1 x.2.1
              · rfl
              · rw [hb] at h; cases h
            have hne : Op.bytesLess x.1 x.2.1 = true := by
              simp only [kj, bu hx, Bool.not_false, cond_true] at hex
              have he : (Op.bytesLess x.2.1 x.1 || decide ((x.2.1 : List UInt8) = x.1)) = false := congrArg Prod.fst (Option.some.inj hex)
              rw [Bool.or_eq_false_iff] at he
              rcases sJ x.1 x.2.1 with h1 | h1 | h1
              · exact h1
              · exact absurd h1.symm (of_decide_eq_false he.2)
              · rw [he.1] at h1; cases h1
            have hxs : Op.bytesLess x.1 s.2.1 = true := by
              rcases sJ x.2.1 s.2.1 with h1 | h1 | h1
              · exact abi hne h1
              · rw [<- h1]; exact hne
              · rw [hhi] at h1; cases h1
            have hh : agu s x.1 = true := by unfold agu; rw [hlo2, hxs]; simp
            have eN : ∀ y : List UInt8, ld (y, ()) = some (false, ()) := fun y => by simp [ld]
            by_cases he : s.2.1 = x.2.1
            · simp only [jg, hex2, Bool.not_false, cond_true, yQ, hh, fC, aJ he]
              rfl
            · simp only [jg, hex2, Bool.not_false, cond_true, cond_false, yQ, hh, fC, bu he, bu hs, bu hx, pR, eN, hhi, Bool.false_or]
              rfl
theorem auD {m : ag} {s : aa} {R W : List aa} (hR : gz (m, ()) = some (R, ())) (hW : fg (m, ()) = some (W, ())) (hr : R.length <= 2) (hw : W.length <= 2) (h : ref08_Lies (m, s, ()) = some (true, ())) : ∀ x ∈ R ++ W, jg (s, x, ()) = some (true, ()) := by
  have e1 : (decide ((List.length ([] : List (aa)) + List.length R) * 32 <= am)) = true := aJ (by rw [bT]; simp; omega)
  have e2 : (decide ((List.length (([] : List (aa)) ++ R) + List.length W) * 32 <= am)) = true := aJ (by rw [bT]; simp; omega)
  obtain ⟨l, hl⟩ : ∃ l, ([] ++ R) ++ W = l := ⟨_, rfl⟩
  have hll : l.length <= 4 := by rw [<- hl]; simp; omega
  have hl2 : R ++ W = l := by rw [<- hl]; rfl
  obtain ⟨z, h1, h2⟩ := bQ (b := kn) (fun i (_ : Unit) => ((i : Int), s, l, ())) l.length (fun i _ => ∀ j (hj : j < l.length), j < i -> jY (s, l[j], ()) = some (true, ())) (fun z => z = .inl (false, ()) \/ (z = .inr () /\ ∀ x ∈ l, jY (s, x, ()) = some (true, ()))) (by omega)
    (fun i hi _ hj => by
      have e1 := dlt (i := i) (l := l) (by omega)
      have e2 := dzz i
      have e3 := wr1 i (by omega)
      obtain ⟨r, hr⟩ := amK s l[i]
      simp only [kn, e1, e2, cond_true, Bool.and_self, Int.toNat_natCast, aX hi, hr, e3]
      cases r
      · exact .inr ⟨_, .inl rfl, rfl⟩
      · refine .inl ⟨(), fun j hj2 hlt => ?_, rfl⟩
        rcases Nat.lt_or_ge j i with h | h
        · exact hj j hj2 h
        · have : j = i := by omega
          subst this
          exact hr)
    (fun _ hj => by
      have e1 := dnl l
      refine ⟨_, .inr ⟨rfl, fun x hx => ?_⟩, by simp only [kn, e1, cond_false]⟩
      obtain ⟨j, hj2, rfl⟩ := List.mem_iff_getElem.1 hx
      exact hj j hj2 hj2) () (fun j hj h => by omega)
  have h1' : vi (0, s, l, ()) = some z := h1
  rcases h2 with rfl | ⟨rfl, h3⟩
  · simp only [ref08_Lies, hR, hW, e1, e2, cond_true, hl, h1'] at h
    cases h
  · intro x hx
    rw [hl2] at hx
    exact asy (h3 x hx)
theorem atF (l : List aa) (s : aa) (hl : l.length <= 1000) (h : ∀ x ∈ l, jg (s, x, ()) = some (true, ())) : bY (l, s, ()) = some (false, s, ()) := by
  obtain ⟨z, h1, rfl⟩ := bQ (b := bF) (fun i (_ : Unit) => (l, (l.length : Int), (i : Int), s, ())) l.length (fun _ _ => True) (fun z => z = .inr (s, ())) (by omega)
    (fun i hi _ _ => by
      left
      have e1 := dlt (i := i) (l := l) (by omega)
      have e2 := dzz i
      have e3 := wr1 i (by omega)
      exact ⟨(), trivial, by simp only [bF, e1, e2, cond_true, cond_false, Bool.and_self, Int.toNat_natCast, aX hi, tK, h _ (List.getElem_mem hi), Bool.not_true, e3]⟩)
    (fun _ _ => by
      have e1 := dnl l
      exact ⟨_, rfl, by simp only [bF, e1, cond_false]⟩) () trivial
  have h1' : dh (l, (l.length : Int), 0, s, ()) = some (.inr (s, ())) := h1
  have e2 : (decide ((-1 : Int) >= (0 : Int))) = false := rfl
  simp only [bY, dW, h1', e2]
theorem atG (l : List aa) (s : aa) (hl : l.length <= 1000) (h : ∀ x ∈ l, jg (s, x, ()) = some (true, ())) : bZ (l, s, ()) = some (false, l, s, ()) := by
  obtain ⟨z, h1, rfl⟩ := bQ (b := bG) (fun i (_ : Unit) => ((l.length : Int), (i : Int), l, s, ())) l.length (fun _ _ => True) (fun z => z = .inr (l, s, ())) (by omega)
    (fun i hi _ _ => by
      left
      have e1 := dlt (i := i) (l := l) (by omega)
      have e2 := dzz i
      have e3 := wr1 i (by omega)
      exact ⟨(), trivial, by simp only [bG, e1, e2, cond_true, cond_false, Bool.and_self, Int.toNat_natCast, aX hi, tK, h _ (List.getElem_mem hi), Bool.not_true, e3]⟩)
    (fun _ _ => by
      have e1 := dnl l
      exact ⟨_, rfl, by simp only [bG, e1, cond_false]⟩) () trivial
  have h1' : dj ((l.length : Int), 0, l, s, ()) = some (.inr (l, s, ())) := h1
  have e2 : (decide ((-1 : Int) >= (0 : Int))) = false := rfl
  simp only [bZ, dX, h1', e2]
theorem awi {m : ag} {s : aa} (hm : MadeM m) (hl : ref08_Lies (m, s, ()) = some (true, ())) : xb (m, s, ()) = some (false, s, ()) := by
  obtain ⟨v, R, W, h1, h2, h3, h4, h5, h6⟩ := auG hm
  have ha := auD h2 h4 h5 h6 hl
  have hR := atF R s (by omega) (fun x hx => ha x (List.mem_append.2 (.inl hx)))
  have hW := atG W s (by omega) (fun x hx => ha x (List.mem_append.2 (.inr hx)))
  simp only [xb, v, h1, h3, hR, hW, Bool.not_true, Bool.not_false, cond_true]
theorem avo (l : List ag) (s : aa) (hl : l.length <= 1000) (h : ∀ m ∈ l, MadeM m /\ ref08_Lies (m, s, ()) = some (true, ())) : cH (l, s, ()) = some (false, s, ()) := by
  obtain ⟨z, h1, rfl⟩ := bQ (b := bP) (fun i (_ : Unit) => (l, (l.length : Int), (i : Int), s, ())) l.length (fun _ _ => True) (fun z => z = .inr (s, ())) (by omega)
    (fun i hi _ _ => by
      left
      have e1 := dlt (i := i) (l := l) (by omega)
      have e2 := dzz i
      have e3 := wr1 i (by omega)
      obtain ⟨c1, c2⟩ := h _ (List.getElem_mem hi)
      exact ⟨(), trivial, by simp only [bP, e1, e2, cond_true, cond_false, Bool.and_self, Int.toNat_natCast, aX hi, awi c1 c2, e3]⟩)
    (fun _ _ => by
      have e1 := dnl l
      exact ⟨_, rfl, by simp only [bP, e1, cond_false]⟩) () trivial
  have h1' : dJ (l, (l.length : Int), 0, s, ()) = some (.inr (s, ())) := h1
  have e2 : (decide ((-1 : Int) >= (0 : Int))) = false := rfl
  simp only [cH, eQ, h1', e2]
theorem ask {q : api_Sum} (h : InS q) : ki (q, ()) = some (true, ()) := by
  obtain ⟨⟨a1, a2, a3⟩, b1, b2, b3⟩ := h
  obtain ⟨l, hl⟩ : ∃ l : List dS, [q.1, q.2.1] = l := ⟨_, rfl⟩
  have hin : ∀ r ∈ l, 0 <= r.1 /\ r.1 <= r.2.1 /\ r.2.1 <= 1000000000000000 := by
    intro r hr
    rw [<- hl] at hr
    simp only [List.mem_cons, List.not_mem_nil, or_false] at hr
    rcases hr with rfl | rfl
    · exact ⟨a1, a2, a3⟩
    · exact ⟨b1, b2, b3⟩
  have hll : l.length = 2 := by rw [<- hl]; rfl
  obtain ⟨z, h1, rfl⟩ := bQ (b := iy) (fun i (_ : Unit) => ((l.length : Int), (i : Int), l, ())) l.length (fun _ _ => True) (fun z => z = .inr ()) (by omega)
    (fun i hi _ _ => by
      left
      have e1 := dlt (i := i) (l := l) (by omega)
      have e2 := dzz i
      have e3 := wr1 i (by omega)
      obtain ⟨c1, c2, c3⟩ := hin _ (List.getElem_mem hi)
      have e4 : (decide (l[i].1 < (0 : Int))) = false := bu (by omega)
      have e5 : (decide (l[i].1 > l[i].2.1)) = false := bu (by omega)
      have e6 : (decide (l[i].2.1 > (1000000000000000 : Int))) = false := bu (by omega)
      exact ⟨(), trivial, by simp only [iy, e1, e2, cond_true, cond_false, Bool.and_self, Int.toNat_natCast, aX hi, e4, e5, e6, Bool.not_false, e3]⟩)
    (fun _ _ => by
      have e1 := dnl l
      exact ⟨_, rfl, by simp only [iy, e1, cond_false]⟩) () trivial
  have h1' : qK ((l.length : Int), 0, l, ()) = some (.inr ()) := h1
  simp only [ki, hl, h1']
def PivOK (ps : List (List UInt8)) (s : aa) : Prop := ∀ i (h : i < ps.length), Op.bytesLess (List.getD (s.1 :: ps) i []) ps[i] = true /\ (s.2.1 = [] \/ Op.bytesLess ps[i] s.2.1 = true)
theorem auO (ps : List (List UInt8)) (n : api_Node) (s : aa) (hl : ps.length <= 1000) (h : PivOK ps s) : o7 (s.1, ps, (ps.length : Int), 0, n, s, ()) = some (.inr (n, s, ())) := by
  obtain ⟨z, h1, rfl⟩ := bQ (b := eP) (fun i (_ : Unit) => (List.getD (s.1 :: ps) i [], ps, (ps.length : Int), (i : Int), n, s, ())) ps.length (fun _ _ => True) (fun z => z = .inr (n, s, ())) (by omega)
    (fun i hi _ _ => by
      left
      have e1 := dlt (i := i) (l := ps) (by omega)
      have e2 := dzz i
      have e3 := wr1 i (by omega)
      obtain ⟨c1, c2⟩ := h i hi
      have e4 := abh c1
      have e5 : (decide ((ps[i] : List UInt8) = List.getD (s.1 :: ps) i [])) = false := bu (fun e => by rw [<- e, pQ] at c1; cases c1)
      have e6 : List.getD (s.1 :: ps) (i + 1) [] = ps[i] := by
        show List.getD ps i [] = _
        exact aX hi
      refine ⟨(), trivial, ?_⟩
      rw [e6]
      rcases c2 with c2 | c2
      · simp only [eP, e1, e2, cond_true, cond_false, Bool.and_self, Int.toNat_natCast, aX hi, e4, e5, Bool.or_false, Bool.not_false, aJ c2, Bool.not_true, e3]
      · cases hd : (!decide (s.2.1 = ([] : List UInt8)))
        · simp only [eP, e1, e2, cond_true, cond_false, Bool.and_self, Int.toNat_natCast, aX hi, e4, e5, Bool.or_false, Bool.not_false, hd, e3]
        · simp only [eP, e1, e2, cond_true, cond_false, Bool.and_self, Int.toNat_natCast, aX hi, e4, e5, Bool.or_false, Bool.not_false, hd, c2, Bool.not_true, e3])
    (fun _ _ => by
      have e1 := dnl ps
      exact ⟨_, rfl, by simp only [eP, e1, cond_false]⟩) () trivial
  exact h1
theorem avz (ks : List Nat) (n : api_Node) (s : aa) (hl : ks.length <= 1000) (hk : ∀ k ∈ ks, k < 4096) (hs : n.2.2.2.1.length = ks.length) (hi : ∀ q ∈ n.2.2.2.1, InS q) : vd (kidsI ks, (ks.length : Int), 0, n, s, ()) = some (.inr (n, s, ())) := by
  obtain ⟨S, hS⟩ : ∃ S, n.2.2.2.1 = S := ⟨_, rfl⟩
  rw [hS] at hs hi
  obtain ⟨z, h1, rfl⟩ := bQ (b := m9) (fun i (_ : Unit) => (kidsI ks, (ks.length : Int), (i : Int), n, s, ())) ks.length (fun _ _ => True) (fun z => z = .inr (n, s, ())) (by omega)
    (fun i hi2 _ _ => by
      left
      have hiS : i < S.length := by omega
      have e1 : (decide (((i : Nat) : Int) < ((ks.length : Nat) : Int))) = true := aJ (by omega)
      have e1b : (decide (((i : Nat) : Int) < ((List.length (kidsI ks) : Nat) : Int))) = true := aJ (by rw [bW]; omega)
      have e1c : (decide (((i : Nat) : Int) < ((List.length S : Nat) : Int))) = true := aJ (by omega)
      have e2 := dzz i
      have e3 := wr1 i (by omega)
      have hk2 := hk _ (List.getElem_mem hi2)
      have e4 : (decide (((ks[i] : Nat) : Int) < (0 : Int))) = false := bu (by omega)
      have e5 : (decide (((ks[i] : Nat) : Int) >= (4096 : Int))) = false := bu (by omega)
      exact ⟨(), trivial, by simp only [m9, hS, e1, e1b, e1c, e2, cond_true, cond_false, Bool.and_self, Int.toNat_natCast, m8 hi2, aX hiS, e4, e5, Bool.not_false, ask (hi _ (List.getElem_mem hiS)), Bool.not_true, e3]⟩)
    (fun _ _ => by
      have e1 : (decide (((ks.length : Nat) : Int) < ((ks.length : Nat) : Int))) = false := bu (by omega)
      exact ⟨_, rfl, by simp only [m9, e1, cond_false]⟩) () trivial
  exact h1
theorem aeO {piv : List (List UInt8)} {ks : List Nat} {sums : List api_Sum} {buf : List ag} {s : aa} (h1 : ks.length = piv.length + 1) (h2 : sums.length = ks.length) (hkl : ks.length <= 100) (hp : PivOK piv s) (hk : ∀ k ∈ ks, k < 4096) (hs : ∀ q ∈ sums, InS q) (hb : ∀ m ∈ buf, MadeM m /\ ref08_Lies (m, s, ()) = some (true, ())) (hbl : buf.length <= 100) :
    ix (([], piv, kidsI ks, sums, buf, ()), s, ()) = some (true, ()) := by
  have e0 : (decide ((ks.length : Int) = (0 : Int))) = false := bu (by omega)
  have e1 : (decide ((((List.length ([] : List ae)) : Int) : Int) > (0 : Int))) = false := rfl
  have e2 : (decide ((((List.length sums) : Int) : Int) = (ks.length : Int))) = true := aJ (by omega)
  have e3 : IntKind.i64.wrap ((ks.length : Int) - 1) = (piv.length : Int) := by rw [cI (by omega)]; omega
  have e4 : (decide ((((List.length piv) : Int) : Int) = (piv.length : Int))) = true := aJ rfl
  have g1 := auO piv ([], piv, kidsI ks, sums, buf, ()) s (by omega) hp
  have g2 := avz ks ([], piv, kidsI ks, sums, buf, ()) s (by omega) hk h2 hs
  have g3 := avo buf s (by omega) hb
  have e5 : ((List.length (kidsI ks) : Nat) : Int) = (ks.length : Int) := by rw [bW]
  simp only [ix, e0, e1, e2, e3, e4, cond_false, Bool.not_false, Bool.not_true, cond_true, mA, g1, e5, g2, g3, decide_true]
theorem atv {P : List (List UInt8)} (hP : P.Pairwise fun a b => Op.bytesLess a b = true) (s : aa) : PivOK (mineOf P s) s := by
  have hm : (mineOf P s).Pairwise fun a b => Op.bytesLess a b = true := List.Pairwise.filter _ hP
  have hf : ∀ k ∈ mineOf P s, Op.bytesLess s.1 k = true /\ (s.2.1 = [] \/ Op.bytesLess k s.2.1 = true) := by
    intro k hk
    obtain ⟨-, h2⟩ := List.mem_filter.1 hk
    simp only [Bool.and_eq_true, Bool.not_eq_true', Bool.or_eq_false_iff, agu, Bool.or_eq_true_iff, decide_eq_true_eq, decide_eq_false_iff_not] at h2
    obtain ⟨⟨a1, a2⟩, a3, a4⟩ := h2
    refine ⟨?_, a4⟩
    rcases sJ s.1 k with h | h | h
    · exact h
    · exact absurd h.symm a2
    · rw [h] at a1; cases a1
  intro i hi
  refine ⟨?_, (hf _ (List.getElem_mem hi)).2⟩
  cases i with
  | zero => exact (hf _ (List.getElem_mem hi)).1
  | succ i =>
    show Op.bytesLess (List.getD (mineOf P s) i []) _ = true
    rw [aX (show i < (mineOf P s).length by omega)]
    exact List.pairwise_iff_getElem.1 hm _ _ _ hi (by omega)
def goodS : List (List (List UInt8)) -> aa -> Bool
  | [], _ => true
  | P :: pv, s => (match span_Parts (s, mineOf P s, ()) with
      | some (l, _) => decide (l = partsOf s (mineOf P s))
      | none => false) && (partsOf s (mineOf P s)).all (goodS pv)
theorem ats : ∀ pv ∈ LV, goodS pv sp0 = true := by
  have h : LV.all (fun pv => goodS pv sp0) = true := by kernel_rfl
  exact fun pv hp => List.all_eq_true.1 h pv hp
theorem apy : ∀ pv ∈ LV, ∀ P ∈ pv, P.Pairwise fun a b => Op.bytesLess a b = true := by decide
theorem ana {P : List (List UInt8)} {pv : List (List (List UInt8))} {s : aa} (h : goodS (P :: pv) s = true) : span_Parts (s, mineOf P s, ()) = some (partsOf s (mineOf P s), ()) /\ ∀ q ∈ partsOf s (mineOf P s), goodS pv q = true := by
  rw [goodS, Bool.and_eq_true] at h
  obtain ⟨h1, h2⟩ := h
  refine ⟨?_, fun q hq => List.all_eq_true.1 h2 q hq⟩
  cases e : span_Parts (s, mineOf P s, ()) with
  | none => rw [e] at h1; cases h1
  | some r =>
    obtain ⟨l, u⟩ := r
    rw [e] at h1
    have : l = partsOf s (mineOf P s) := of_decide_eq_true h1
    rw [this]
theorem ac1 {n : api_Node} {s : aa} {l : List aa} (h0 : n.2.2.1 ≠ []) (h : span_Parts (s, n.2.1, ()) = some (l, ())) : yB (n, s, ()) = some (l, ()) := by
  have e0 : (decide ((((List.length n.2.2.1) : Int) : Int) = (0 : Int))) = false := bu (by
    have := List.length_pos_iff.2 h0
    omega)
  simp only [yB, e0, cond_false, h]
theorem afR {ns : List api_Node} {t : List ae} (ht : TabOK t) : ∀ {pv : List (List (List UInt8))} {s : aa} {i : Nat}, (∀ q ∈ pv, q.length <= 5) -> TreeS ns t pv s i -> ∃ n q, ns[i]? = some n /\ yC (n, ()) = some (q, ()) /\ jt (n, ()) = some (q, ()) /\ InS q
  | [], s, i, _, h => by
    obtain ⟨q, h1, h2, h3⟩ := auC (n := (inS s t, [], [], [], [], ())) rfl (fun p hp => (ht.inS s).chg p hp) (by have := (ht.inS s).len; show (inS s t).length <= _; omega)
    exact ⟨_, q, h, h1, h2, h3⟩
  | P :: pv, s, i, hq, ⟨ks, sums, buf, h1, h2, h3, h4, h5, h6, h7, h8⟩ => by
    have hm := abv P s
    have hP := hq P List.mem_cons_self
    have hs : ∀ q ∈ sums, InS q := by
      intro q hqm
      obtain ⟨j, hj, rfl⟩ := List.mem_iff_getElem.1 hqm
      obtain ⟨c1, n, c2, c3⟩ := h8 j (by omega)
      obtain ⟨n2, q2, d1, d2, d3, d4⟩ := afR ht (fun q hq' => hq q (List.mem_cons_of_mem _ hq')) c1
      obtain rfl := Option.some.inj (c2.symm.trans d1)
      rw [aX hj] at c3
      have := Option.some.inj (c3.symm.trans d3)
      have hj1 : sums[j] = q2 := congrArg Prod.fst this
      rw [hj1]
      exact d4
    obtain ⟨q, g1, g2, g3⟩ := atP (n := ([], mineOf P s, kidsI ks, sums, buf, ())) (by
      intro e
      have := congrArg List.length e
      have e2 : (kidsI ks).length = ([] : List Int).length := this
      rw [bW, List.length_nil] at e2
      omega) hs (by show sums.length <= 1000; omega) (fun m hm => (h7 m hm).1) (by show buf.length <= 1000; omega)
    exact ⟨_, q, h1, g1, g2, g3⟩
theorem aqs {ks : List Nat} (h : 0 < ks.length) : kidsI ks ≠ [] := by
  intro e
  have := congrArg List.length e
  rw [bW, List.length_nil] at this
  omega
theorem akx {ns : List api_Node} {t : List ae} (ht : TabOK t) (hns : ns.length <= 900) : ∀ (pv : List (List (List UInt8))) (s : aa) (i : Nat) (f : Nat) (most : Nat), (∀ q ∈ pv, q.length <= 5) -> (∀ P ∈ pv, P.Pairwise fun a b => Op.bytesLess a b = true) -> goodS pv s = true -> TreeS ns t pv s i -> pv.length + 1 <= f -> pv.length + 1 <= most -> most <= 64 ->
    aW f ((mk ns (fun _ => 1), ()), (i : Int), s, (most : Int), ()) = some (((pv.length + 1 : Nat) : Int), ())
  | _, _, _, 0, _, _, _, _, _, h, _, _ => by omega
  | [], s, i, f + 1, most, _, _, _, hT, _, h2, h3 => by
    have e1 := me (ns := ns) (r := fun _ => 1) (List.getElem?_eq_some_iff.1 hT).1
    have e2 : ns[i]'(List.getElem?_eq_some_iff.1 hT).1 = (inS s t, [], [], [], [], ()) := (List.getElem?_eq_some_iff.1 hT).2
    rw [e2] at e1
    have e3 : (decide ((most : Int) = (0 : Int))) = false := bu (by have : ([] : List (List (List UInt8))).length = 0 := rfl; omega)
    have e4 := asF ht s
    show bX (aW f) _ = _
    simp only [bX, e1, decide_true, Bool.not_true, Bool.not_false, cond_true, e3, e4, jh, cond_false, age]
    rfl
  | P :: pv, s, i, f + 1, most, hq, hsrt, hg, ⟨ks, sums, buf, h1, h2, h3, h4, h5, h6, h7, h8⟩, hf, hm1, hm2 => by
    have hlt := (List.getElem?_eq_some_iff.1 h1).1
    have e1 := me (ns := ns) (r := fun _ => 1) hlt
    have e2 : ns[i]'hlt = ([], mineOf P s, kidsI ks, sums, buf, ()) := (List.getElem?_eq_some_iff.1 h1).2
    rw [e2] at e1
    have hlen : (P :: pv).length = pv.length + 1 := rfl
    have hml := abv P s
    have hP := hq P List.mem_cons_self
    have hq' : ∀ q ∈ pv, q.length <= 5 := fun q hq' => hq q (List.mem_cons_of_mem _ hq')
    have hs' : ∀ q ∈ pv, q.Pairwise fun a b => Op.bytesLess a b = true := fun q hq' => hsrt q (List.mem_cons_of_mem _ hq')
    have e3 : (decide ((most : Int) = (0 : Int))) = false := bu (by omega)
    have hin : ∀ q ∈ sums, InS q := by
      intro q hqm
      obtain ⟨j, hj, rfl⟩ := List.mem_iff_getElem.1 hqm
      obtain ⟨c1, n, c2, c3⟩ := h8 j (by omega)
      obtain ⟨n2, q2, d1, d2, d3, d4⟩ := afR ht hq' c1
      obtain rfl := Option.some.inj (c2.symm.trans d1)
      rw [aX hj] at c3
      have := Option.some.inj (c3.symm.trans d3)
      have hj1 : sums[j] = q2 := congrArg Prod.fst this
      rw [hj1]
      exact d4
    have e4 := aeO (piv := mineOf P s) (ks := ks) (sums := sums) (buf := buf) (s := s) h2 h3 (by omega) (atv (hsrt P List.mem_cons_self) s) (fun k hk => by have := h5 k hk; omega) hin h7 (by omega)
    obtain ⟨p1, p2⟩ := ana hg
    have hpl := (ajz s (mineOf P s) (by omega)).2
    obtain ⟨parts, hparts⟩ : ∃ p, partsOf s (mineOf P s) = p := ⟨_, rfl⟩
    have e5 := ac1 (n := ([], mineOf P s, kidsI ks, sums, buf, ())) (s := s) (aqs (by omega)) p1
    rw [hparts] at e5 p2 hpl
    have e6 : (decide ((((List.length (kidsI ks)) : Int) : Int) = (0 : Int))) = false := bu (by rw [bW]; omega)
    obtain ⟨N, hN⟩ : ∃ N : api_Node, ([], mineOf P s, kidsI ks, sums, buf, ()) = N := ⟨_, rfl⟩
    have hNk : N.2.2.1 = kidsI ks := by rw [<- hN]
    have hNs : N.2.2.2.1 = sums := by rw [<- hN]
    rw [hN] at e1 e4 e5
    obtain ⟨z, g1, rfl⟩ := bQ (b := fc (aW f)) (fun j (_ : Unit) => ((most : Int), ((if j = 0 then 0 else pv.length + 1 : Nat) : Int), (parts.length : Int), (j : Int), (mk ns (fun _ => 1), ()), N, parts, ())) parts.length (fun _ _ => True) (fun z => z = .inr (((pv.length + 1 : Nat) : Int), ())) (by omega)
      (fun j hj _ _ => by
        left
        have hjk : j < ks.length := by omega
        have hjs : j < sums.length := by omega
        obtain ⟨c1, n, c2, c3⟩ := h8 j hjk
        rw [hparts] at c1
        rw [aX hj] at c1
        have hks : ks.getD j 0 = ks[j] := aX hjk
        rw [hks] at c1 c2
        have ih := akx ht hns pv parts[j] ks[j] f (most - 1) hq' hs' (p2 _ (List.getElem_mem hj)) c1 (by omega) (by omega) (by omega)
        obtain ⟨n2, q2, d1, d2, d3, d4⟩ := afR ht hq' c1
        obtain rfl := Option.some.inj (c2.symm.trans d1)
        rw [aX hjs] at c3
        have hq2 : sums[j] = q2 := congrArg Prod.fst (Option.some.inj (c3.symm.trans d3))
        have hlt2 := (List.getElem?_eq_some_iff.1 c2).1
        have f1 := me (ns := ns) (r := fun _ => 1) hlt2
        have f2 : ns[ks[j]]'hlt2 = n := (List.getElem?_eq_some_iff.1 c2).2
        rw [f2] at f1
        have w1 : IntKind.i64.wrap ((most : Int) - 1) = ((most - 1 : Nat) : Int) := by rw [cI (by omega)]; omega
        have e1 := dlt (i := j) (l := parts) (by omega)
        have e2 := dzz j
        have e7 : (decide (((j : Nat) : Int) < ((List.length (kidsI ks) : Nat) : Int))) = true := aJ (by rw [bW]; omega)
        have e8 : (decide (((j : Nat) : Int) < ((List.length sums : Nat) : Int))) = true := aJ (by omega)
        have e9 := wr1 j (by omega)
        have e10 : (decide (((pv.length + 1 : Nat) : Int) = (0 : Int))) = false := bu (by omega)
        have hj0 : mr (aW f) ((most : Int), (j : Int), ((pv.length + 1 : Nat) : Int), (parts.length : Int), (j : Int), (mk ns (fun _ => 1), ()), N, parts, ()) = some (.inl ((most : Int), ((pv.length + 1 : Nat) : Int), (parts.length : Int), ((j + 1 : Nat) : Int), (mk ns (fun _ => 1), ()), N, parts, ())) := by
          simp only [mr, hNk, hNs, e2, e7, e8, cond_true, Bool.and_self, Int.toNat_natCast, m8 hjk, f1, d2, aX hjs, hq2, rN, Bool.not_true, cond_false, e9]
        refine ⟨(), trivial, ?_⟩
        rw [if_neg (by omega : ¬ j + 1 = 0)]
        simp only [fc, hNk, e1, e2, e7, cond_true, Bool.and_self, Int.toNat_natCast, aX hj, m8 hjk, w1, ih, e10, Bool.not_false]
        by_cases h0 : j = 0
        · have e11 : (decide (((j : Nat) : Int) > (0 : Int))) = false := bu (by omega)
          simp only [e11, cond_false, hj0]
        · have e11 : (decide (((j : Nat) : Int) > (0 : Int))) = true := aJ (by omega)
          rw [if_neg h0]
          simp only [e11, cond_true, decide_true, Bool.not_true, cond_false, hj0])
      (fun _ _ => by
        have e1 := dnl parts
        have hp0 : ¬ parts.length = 0 := by omega
        exact ⟨_, rfl, by simp only [fc, e1, cond_false]; rw [if_neg hp0]⟩) () trivial
    have g1' : nh (aW f) ((most : Int), (0 : Int), (parts.length : Int), (0 : Int), (mk ns (fun _ => 1), ()), N, parts, ()) = some (.inr (((pv.length + 1 : Nat) : Int), ())) := g1
    have w2 : IntKind.i64.wrap (((pv.length + 1 : Nat) : Int) + 1) = (((P :: pv).length + 1 : Nat) : Int) := by rw [cI (by omega)]; omega
    have e7 : (decide ((((List.length N.2.2.1) : Int) : Int) = (0 : Int))) = false := by rw [hNk]; exact e6
    show bX (aW f) _ = _
    simp only [bX, e1, decide_true, Bool.not_true, Bool.not_false, cond_true, e3, e4, jh, cond_false, age, e7, e5, g1', w2]
theorem apI (w : Int) (hw : 0 <= w /\ w < 256) : fu (shp w, ()) = some (true, ()) := by
  obtain ⟨m, rfl⟩ := Int.eq_ofNat_of_zero_le hw.1
  have hc : (List.range 256).all (fun k => match fu (shp ((k : Nat) : Int), ()) with | some (b, _) => b | none => false) = true := by kernel_rfl
  have := List.all_eq_true.1 hc m (List.mem_range.2 (by omega))
  cases e : fu (shp ((m : Nat) : Int), ()) with
  | none => rw [e] at this; cases this
  | some q =>
    obtain ⟨b, u⟩ := q
    rw [e] at this
    have hb : b = true := this
    rw [hb]
theorem ao3 {ns : List api_Node} {x : aA} {root : Nat} (h : asq x) (hns : ns.length <= 900) (ht : TreeS ns (al1 x) (acw x) sp0 root) : dL (((mk ns (fun _ => 1), ()), (((root : Nat) : Int), (shp x.2.2.1, ()))), ()) = some (true, ()) := by
  have hm := aqv x
  obtain ⟨l1, l2⟩ := aiR _ hm
  have hT : TabOK (al1 x) := asa _ (fun y hy => h.t.1 y (List.mem_of_mem_take hy)) (by simp; omega)
  have e1 := akx hT hns (acw x) sp0 root aco 64 l2 (apy _ hm) (ats _ hm) ht (by rw [sk]; omega) (by omega) (by omega)
  have e1' : vY ((mk ns (fun _ => 1), ()), (root : Int), sp0, (64 : Int), ()) = some ((((acw x).length + 1 : Nat) : Int), ()) := e1
  have e2 : (decide ((((acw x).length + 1 : Nat) : Int) > (0 : Int))) = true := aJ (by omega)
  simp only [dL, apI _ h.w, cond_true, e1', e2]
theorem aqx {ns : List api_Node} {i : Nat} (N : api_Node) (h : i < ns.length) : (mk ns (fun _ => 1)).set i (true, (false, (1, (N, ())))) = mk (ns.set i N) (fun _ => 1) := by
  apply List.ext_getElem
  · rw [List.length_set, oI, oI, List.length_set]
  · intro j h1 h2
    rw [List.getElem_set, rp h2]
    rw [List.length_set] at h1
    by_cases e : i = j
    · subst e
      simp
    · rw [if_neg e, rp h1]
      simp [List.getElem_set, e]
theorem TreeS.set {ns : List api_Node} {t : List ae} {r : Nat} (N : api_Node) : ∀ {pv : List (List (List UInt8))} {s : aa} {i : Nat}, i < r -> TreeS ns t pv s i -> TreeS (ns.set r N) t pv s i
  | [], s, i, hi, h => by
    show (ns.set r N)[i]? = _
    rw [List.getElem?_set_ne (by omega)]
    exact h
  | P :: pv, s, i, hi, ⟨ks, sums, buf, h1, h2, h3, h4, h5, h6, h7, h8⟩ => by
    refine ⟨ks, sums, buf, ?_, h2, h3, h4, h5, h6, h7, fun j hj => ?_⟩
    · rw [List.getElem?_set_ne (by omega)]
      exact h1
    · have hk : ks.getD j 0 < i := by
        rw [aX hj]
        exact h5 _ (List.getElem_mem hj)
      obtain ⟨c1, n, c2, c3⟩ := h8 j hj
      exact ⟨c1.set N (by omega), n, by rw [List.getElem?_set_ne (by omega)]; exact c2, c3⟩
theorem aie {ns : List api_Node} {i : Nat} {N : api_Node} {s : aa} {f most : Nat} (h : ns[i]? = some N) (hv : ix (N, s, ()) = some (false, ())) (hm : 0 < most) : aW (f + 1) ((mk ns (fun _ => 1), ()), (i : Int), s, (most : Int), ()) = some (0, ()) := by
  have hlt := (List.getElem?_eq_some_iff.1 h).1
  have e1 := me (ns := ns) (r := fun _ => 1) hlt
  have e2 : ns[i]'hlt = N := (List.getElem?_eq_some_iff.1 h).2
  rw [e2] at e1
  have e3 : (decide ((most : Int) = (0 : Int))) = false := bu (by omega)
  show bX (aW f) _ = _
  simp only [bX, e1, decide_true, Bool.not_true, Bool.not_false, cond_true, e3, hv, jh, cond_false]
theorem afa {ns : List api_Node} {root : Nat} {sh : aP} (hsh : fu (sh, ()) = some (true, ())) (h : aW aco ((mk ns (fun _ => 1), ()), (root : Int), sp0, ((64 : Nat) : Int), ()) = some (0, ())) : dL (((mk ns (fun _ => 1), ()), ((root : Int), (sh, ()))), ()) = some (false, ()) := by
  have h' : vY ((mk ns (fun _ => 1), ()), (root : Int), sp0, (64 : Int), ()) = some (0, ()) := h
  simp only [dL, hsh, cond_true, h']
  rfl
theorem as6 : ∃ f, aco = f + 2 := ⟨aco - 2, by rw [sk]⟩
theorem asl {q : api_Sum} (h1 : 0 <= q.1.1 /\ q.1.1 <= q.1.2.1) (h2 : 1000000000000000 < q.1.2.1) : ki (q, ()) = some (false, ()) := by
  have e1 : (decide (((0 : Int) : Int) < (([q.1, q.2.1] : List dS).length : Int))) = true := rfl
  have e2 : (decide (q.1.1 < (0 : Int))) = false := bu (by omega)
  have e3 : (decide (q.1.1 > q.1.2.1)) = false := bu (by omega)
  have e4 : (decide (q.1.2.1 > (1000000000000000 : Int))) = true := aJ h2
  have e5 : (decide ((0 : Int) <= (0 : Int))) = true := rfl
  have hb : iy ((([q.1, q.2.1] : List dS).length : Int), 0, [q.1, q.2.1], ()) = some (.inr (.inl (false, ()))) := by
    have g : List.getD ([q.1, q.2.1] : List dS) (Int.toNat 0) ((0 : Int), ((0 : Int), ())) = q.1 := rfl
    simp only [iy, e1, e5, Bool.and_self, cond_true, g, e2, e3, e4, Bool.not_false]
  have h : qK ((([q.1, q.2.1] : List dS).length : Int), 0, [q.1, q.2.1], ()) = some (.inl (false, ())) := vD (n := 1) (by rw [sk]; omega) (by simp only [lQ, hb])
  simp only [ki, h]
theorem auA (ks : List Nat) (n : api_Node) (s : aa) (h0 : 0 < ks.length) (hk : ∀ k ∈ ks, k < 4096) (hs : 0 < n.2.2.2.1.length) (hv : ki (n.2.2.2.1[0], ()) = some (false, ())) : vd (kidsI ks, (ks.length : Int), 0, n, s, ()) = some (.inl (false, ())) := by
  have e1 : (decide ((0 : Int) < (ks.length : Int))) = true := aJ (by omega)
  have e1b : (decide ((0 : Int) < ((kidsI ks).length : Int))) = true := aJ (by rw [bW]; omega)
  have e1c : (decide ((0 : Int) < (n.2.2.2.1.length : Int))) = true := aJ (by omega)
  have e2 : (decide ((0 : Int) <= (0 : Int))) = true := rfl
  have hk2 := hk _ (List.getElem_mem h0)
  have e4 : (decide (((ks[0] : Nat) : Int) < (0 : Int))) = false := bu (by omega)
  have e5 : (decide (((ks[0] : Nat) : Int) >= (4096 : Int))) = false := bu (by omega)
  have hb : m9 (kidsI ks, (ks.length : Int), 0, n, s, ()) = some (.inr (.inl (false, ()))) := by
    simp only [m9, e1, e1b, e1c, e2, Bool.and_self, cond_true, Int.toNat_zero, m8 h0, aX hs, e4, e5, Bool.not_false, hv]
  exact vD (n := 1) (by rw [sk]; omega) (by simp only [lQ, hb])
structure ati (ns : List api_Node) (t : List ae) (P : List (List UInt8)) (pv : List (List (List UInt8))) (root : Nat) (ks : List Nat) (sums : List api_Sum) (buf : List ag) : Prop where
  n : ns[root]? = some ([], mineOf P sp0, kidsI ks, sums, buf, ())
  kl : ks.length = (mineOf P sp0).length + 1
  sl : sums.length = ks.length
  ml : (mineOf P sp0).length <= 5
  piv : PivOK (mineOf P sp0) sp0
  lt : ∀ k ∈ ks, k < root
  r : root < 900
  ins : ∀ q ∈ sums, InS q
  bl : buf.length <= 5
  buf : ∀ m ∈ buf, MadeM m /\ ref08_Lies (m, sp0, ()) = some (true, ())
  kid : ∀ j, j < ks.length -> TreeS ns t pv (List.getD (partsOf sp0 (mineOf P sp0)) j sp0) (ks.getD j 0) /\ SumAt ns (ks.getD j 0) (List.getD sums j sum0)
  sp : span_Parts (sp0, mineOf P sp0, ()) = some (partsOf sp0 (mineOf P sp0), ())
  pl : (partsOf sp0 (mineOf P sp0)).length = (mineOf P sp0).length + 1
  good : ∀ q ∈ partsOf sp0 (mineOf P sp0), goodS pv q = true
theorem awr {ns : List api_Node} {t : List ae} (ht : TabOK t) (hns : ns.length <= 900) {P : List (List UInt8)} {pv : List (List (List UInt8))} {root : Nat} (hq : ∀ q ∈ P :: pv, q.length <= 5) (hsrt : ∀ Q ∈ P :: pv, Q.Pairwise fun a b => Op.bytesLess a b = true) (hg : goodS (P :: pv) sp0 = true) (h : TreeS ns t (P :: pv) sp0 root) : ∃ ks sums buf, ati ns t P pv root ks sums buf := by
  obtain ⟨ks, sums, buf, h1, h2, h3, h4, h5, h6, h7, h8⟩ := h
  have hml := abv P sp0
  have hP := hq P List.mem_cons_self
  have hlt := (List.getElem?_eq_some_iff.1 h1).1
  obtain ⟨p1, p2⟩ := ana hg
  have hin : ∀ q ∈ sums, InS q := by
    intro q hqm
    obtain ⟨j, hj, rfl⟩ := List.mem_iff_getElem.1 hqm
    obtain ⟨c1, n, c2, c3⟩ := h8 j (by omega)
    obtain ⟨n2, q2, d1, d2, d3, d4⟩ := afR ht (fun q hq' => hq q (List.mem_cons_of_mem _ hq')) c1
    obtain rfl := Option.some.inj (c2.symm.trans d1)
    rw [aX hj] at c3
    have := Option.some.inj (c3.symm.trans d3)
    have hj1 : sums[j] = q2 := congrArg Prod.fst this
    rw [hj1]
    exact d4
  exact ⟨ks, sums, buf, h1, h2, h3, by omega, atv (hsrt P List.mem_cons_self) sp0, h5, by omega, hin, h6, h7, h8, p1, (ajz sp0 (mineOf P sp0) (by omega)).2, p2⟩
theorem aqL {ns : List api_Node} {i : Nat} {N : api_Node} (h : i < ns.length) : (ns.set i N)[i]? = some N := by
  rw [List.getElem?_set_self h]
section
variable {ns : List api_Node} {t : List ae} {P : List (List UInt8)} {pv : List (List (List UInt8))} {root : Nat} {ks : List Nat} {sums : List api_Sum} {buf : List ag}
theorem atX (F : ati ns t P pv root ks sums buf) (h0 : 0 < (mineOf P sp0).length) : aW aco ((mk (ns.set root ([], (mineOf P sp0).set 0 [], kidsI ks, sums, buf, ())) (fun _ => 1), ()), (root : Int), sp0, ((64 : Nat) : Int), ()) = some (0, ()) := by
  obtain ⟨f, hf⟩ := as6
  rw [hf]
  have hlt := (List.getElem?_eq_some_iff.1 F.n).1
  obtain ⟨M, hM⟩ : ∃ M, (mineOf P sp0).set 0 [] = M := ⟨_, rfl⟩
  have hM0 : 0 < M.length := by rw [<- hM, List.length_set]; exact h0
  have hMe : M[0] = [] := by simp [<- hM]
  have hMl : M.length = (mineOf P sp0).length := by rw [<- hM, List.length_set]
  rw [hM]
  refine aie (aqL hlt) ?_ (by omega)
  obtain ⟨k1, k2, k3⟩ := And.intro F.kl (And.intro F.sl F.ml)
  have e0 : (decide ((ks.length : Int) = (0 : Int))) = false := bu (by omega)
  have e1 : (decide ((((List.length ([] : List ae)) : Int) : Int) > (0 : Int))) = false := rfl
  have e2 : (decide ((((List.length sums) : Int) : Int) = (ks.length : Int))) = true := aJ (by omega)
  have e3 : IntKind.i64.wrap ((ks.length : Int) - 1) = (M.length : Int) := by rw [cI (by omega)]; omega
  have e4 : (decide ((((List.length M) : Int) : Int) = (M.length : Int))) = true := aJ rfl
  have e5 : ((List.length (kidsI ks) : Nat) : Int) = (ks.length : Int) := by rw [bW]
  have e6 : (decide ((0 : Int) < (M.length : Int))) = true := aJ (by omega)
  have e7 : (decide ((0 : Int) <= (0 : Int))) = true := rfl
  have hb : eP (([] : List UInt8), M, (M.length : Int), 0, ([], M, kidsI ks, sums, buf, ()), sp0, ()) = some (.inr (.inl (false, ()))) := by
    have g : (Op.bytesLess ([] : List UInt8) [] || decide (([] : List UInt8) = [])) = true := rfl
    simp only [eP, e6, e7, Bool.and_self, cond_true, Int.toNat_zero, aX hM0, hMe, decide_true, Bool.or_true, Bool.not_true, cond_false]
  have hl : o7 (([] : List UInt8), M, (M.length : Int), 0, ([], M, kidsI ks, sums, buf, ()), sp0, ()) = some (.inl (false, ())) := vD (n := 1) (by rw [sk]; omega) (by simp only [lQ, hb])
  simp only [ix, e5, e0, e1, e2, e3, e4, cond_false, Bool.not_false, Bool.not_true, cond_true, mA, hl, decide_true]
theorem av2 (F : ati ns t P pv root ks sums buf) (m0 : List UInt8) (hp : List.getD (partsOf sp0 (mineOf P sp0)) 0 sp0 = ([], (m0, ()))) (hm : List.getD (mineOf P sp0) 0 [] = m0) (h0 : 0 < (mineOf P sp0).length) (hm0 : m0 ≠ []) : aW aco ((mk (ns.set root ([], mineOf P sp0, kidsI (ks.set 0 root), sums, buf, ())) (fun _ => 1), ()), (root : Int), sp0, ((64 : Nat) : Int), ()) = some (0, ()) := by
  obtain ⟨f, hf⟩ := as6
  rw [hf]
  have hlt := (List.getElem?_eq_some_iff.1 F.n).1
  obtain ⟨k1, k2, k3⟩ := And.intro F.kl (And.intro F.sl F.ml)
  have hr := F.r
  obtain ⟨ks', hks'⟩ : ∃ k, ks.set 0 root = k := ⟨_, rfl⟩
  have hkl : ks'.length = ks.length := by rw [<- hks', List.length_set]
  have hk0 : 0 < ks'.length := by omega
  have hke : ks'[0] = root := by simp [<- hks']
  have hkm : ∀ k ∈ ks', k < 4096 := by
    intro k hk
    rw [<- hks'] at hk
    rcases List.mem_or_eq_of_mem_set hk with h | h
    · have := F.lt k h; omega
    · omega
  obtain ⟨N, hN⟩ : ∃ N : api_Node, ([], mineOf P sp0, kidsI ks', sums, buf, ()) = N := ⟨_, rfl⟩
  rw [hks', hN]
  have hNk : N.2.2.1 = kidsI ks' := by rw [<- hN]
  have v1 : ix (N, sp0, ()) = some (true, ()) := by
    rw [<- hN]
    exact aeO (by omega) (by omega) (by omega) F.piv hkm F.ins F.buf (by have := F.bl; omega)
  have v2 : ix (N, (([] : List UInt8), (m0, ())), ()) = some (false, ()) := by
    have e0 : (decide ((ks'.length : Int) = (0 : Int))) = false := bu (by omega)
    have e1 : (decide ((((List.length ([] : List ae)) : Int) : Int) > (0 : Int))) = false := rfl
    have e2 : (decide ((((List.length sums) : Int) : Int) = (ks'.length : Int))) = true := aJ (by omega)
    obtain ⟨M, hM⟩ : ∃ M, mineOf P sp0 = M := ⟨_, rfl⟩
    rw [hM] at k1 k3 h0 hm hN
    have e3 : IntKind.i64.wrap ((ks'.length : Int) - 1) = (M.length : Int) := by rw [cI (by omega)]; omega
    have e5 : ((List.length (kidsI ks') : Nat) : Int) = (ks'.length : Int) := by rw [bW]
    have e6 : (decide ((0 : Int) < (M.length : Int))) = true := aJ (by omega)
    have e7 : (decide ((0 : Int) <= (0 : Int))) = true := rfl
    have hb : eP (([] : List UInt8), M, (M.length : Int), 0, N, (([] : List UInt8), (m0, ())), ()) = some (.inr (.inl (false, ()))) := by
      have g1 : Op.bytesLess m0 [] = false := by cases m0 <;> rfl
      have g2 : (decide (m0 = ([] : List UInt8))) = false := bu hm0
      simp only [eP, e6, e7, Bool.and_self, cond_true, Int.toNat_zero, hm, g1, g2, Bool.or_false, Bool.not_false, pQ]
    have hl : o7 (([] : List UInt8), M, (M.length : Int), 0, N, (([] : List UInt8), (m0, ())), ()) = some (.inl (false, ())) := vD (n := 1) (by rw [sk]; omega) (by simp only [lQ, hb])
    rw [<- hN] at hl ⊢
    simp only [ix, e5, e0, e1, e2, e3, cond_false, Bool.not_false, Bool.not_true, cond_true, mA, hl, decide_true]
  have hget : (ns.set root N)[root]? = some N := aqL hlt
  have ih := aie (f := f) (most := 63) hget v2 (by omega)
  have hlt2 := (List.getElem?_eq_some_iff.1 hget).1
  have f1 := me (ns := ns.set root N) (r := fun _ => 1) hlt2
  have f2 : (ns.set root N)[root]'hlt2 = N := (List.getElem?_eq_some_iff.1 hget).2
  rw [f2] at f1
  obtain ⟨parts, hparts⟩ : ∃ p, partsOf sp0 (mineOf P sp0) = p := ⟨_, rfl⟩
  have hpl := F.pl
  have e5 := ac1 (n := N) (s := sp0) (l := parts) (by rw [hNk]; exact aqs hk0) (by rw [<- hN, <- hparts]; exact F.sp)
  rw [hparts] at hp hpl
  have hb : fc (aW (f + 1)) (((64 : Nat) : Int), 0, (parts.length : Int), 0, (mk (ns.set root N) (fun _ => 1), ()), N, parts, ()) = some (.inr (.inl ((0 : Int), ()))) := by
    have e1 : (decide ((0 : Int) < (parts.length : Int))) = true := aJ (by omega)
    have e2 : (decide ((0 : Int) <= (0 : Int))) = true := rfl
    have e7 : (decide ((0 : Int) < ((List.length (kidsI ks') : Nat) : Int))) = true := aJ (by rw [bW]; omega)
    have w1 : IntKind.i64.wrap (((64 : Nat) : Int) - 1) = ((63 : Nat) : Int) := rfl
    have g2 : List.getD (kidsI ks') 0 0 = ((root : Nat) : Int) := by rw [m8 hk0, hke]
    simp only [fc, hNk, e1, e2, e7, cond_true, Bool.and_self, Int.toNat_zero, hp, g2, w1, ih, decide_true, Bool.not_true, cond_false]
  have hl : nh (aW (f + 1)) (((64 : Nat) : Int), 0, (parts.length : Int), 0, (mk (ns.set root N) (fun _ => 1), ()), N, parts, ()) = some (.inl ((0 : Int), ())) := vD (n := 1) (by rw [sk]; omega) (by simp only [lQ, hb])
  have e3 : (decide (((64 : Nat) : Int) = (0 : Int))) = false := rfl
  have e7 : (decide ((((List.length N.2.2.1) : Int) : Int) = (0 : Int))) = false := by rw [hNk, bW]; exact bu (by omega)
  show bX (aW (f + 1)) _ = _
  simp only [bX, f1, decide_true, Bool.not_true, Bool.not_false, cond_true, e3, v1, jh, cond_false, age, e7, e5, hl]
theorem av3 (ht : TabOK t) (hns : ns.length <= 900) (F : ati ns t P pv root ks sums buf) (hq : ∀ q ∈ pv, q.length <= 5) (hsrt : ∀ Q ∈ pv, Q.Pairwise fun a b => Op.bytesLess a b = true) (hpv : pv.length <= 10) (h0 : 0 < sums.length) : aW aco ((mk (ns.set root ([], mineOf P sp0, kidsI ks, sums.set 0 ((sums[0].1.1, (sums[0].1.2.1 + 1, ())), sums[0].2), buf, ())) (fun _ => 1), ()), (root : Int), sp0, ((64 : Nat) : Int), ()) = some (0, ()) := by
  obtain ⟨f, hf⟩ := as6
  have hf100 : 100 <= f := by rw [sk] at hf; omega
  rw [hf]
  have hlt := (List.getElem?_eq_some_iff.1 F.n).1
  obtain ⟨k1, k2, k3⟩ := And.intro F.kl (And.intro F.sl F.ml)
  have hr := F.r
  obtain ⟨a1, a2, a3⟩ := (F.ins _ (List.getElem_mem h0)).1
  have a4 := (F.ins _ (List.getElem_mem h0)).2
  obtain ⟨q0, hq0⟩ : ∃ q, sums[0] = q := ⟨_, rfl⟩
  rw [hq0] at a1 a2 a3 a4 ⊢
  obtain ⟨S, hS⟩ : ∃ S, sums.set 0 ((q0.1.1, (q0.1.2.1 + 1, ())), q0.2) = S := ⟨_, rfl⟩
  have hSl : S.length = sums.length := by rw [<- hS, List.length_set]
  have hS0 : 0 < S.length := by omega
  have hSe : S[0] = ((q0.1.1, (q0.1.2.1 + 1, ())), q0.2) := by simp [<- hS]
  have hk4 : ∀ k ∈ ks, k < 4096 := fun k hk => by have := F.lt k hk; omega
  have hk0 : 0 < ks.length := by omega
  rw [hS]
  obtain ⟨N, hN⟩ : ∃ N : api_Node, ([], mineOf P sp0, kidsI ks, S, buf, ()) = N := ⟨_, rfl⟩
  rw [hN]
  have hNk : N.2.2.1 = kidsI ks := by rw [<- hN]
  have hNs : N.2.2.2.1 = S := by rw [<- hN]
  have hget : (ns.set root N)[root]? = some N := aqL hlt
  rcases Int.lt_or_le 1000000000000000 (q0.1.2.1 + 1) with hbig | hsm
  · refine aie hget ?_ (by omega)
    have hv : ki (N.2.2.2.1[0]'(by rw [hNs]; exact hS0), ()) = some (false, ()) := by
      have : N.2.2.2.1[0]'(by rw [hNs]; exact hS0) = ((q0.1.1, (q0.1.2.1 + 1, ())), q0.2) := by
        simp only [hNs]
        exact hSe
      rw [this]
      exact asl (by show 0 <= q0.1.1 /\ q0.1.1 <= q0.1.2.1 + 1; omega) hbig
    have g2 := auA ks N sp0 hk0 hk4 (by rw [hNs]; exact hS0) hv
    have g1 := auO (mineOf P sp0) N sp0 (by omega) F.piv
    have e0 : (decide ((ks.length : Int) = (0 : Int))) = false := bu (by omega)
    have e1 : (decide ((((List.length ([] : List ae)) : Int) : Int) > (0 : Int))) = false := rfl
    have e2 : (decide ((((List.length S) : Int) : Int) = (ks.length : Int))) = true := aJ (by omega)
    have e3 : IntKind.i64.wrap ((ks.length : Int) - 1) = ((mineOf P sp0).length : Int) := by rw [cI (by omega)]; omega
    have e5 : ((List.length (kidsI ks) : Nat) : Int) = (ks.length : Int) := by rw [bW]
    rw [<- hN] at g1 g2 ⊢
    have g1' : o7 (([] : List UInt8), mineOf P sp0, ((mineOf P sp0).length : Int), 0, ([], mineOf P sp0, kidsI ks, S, buf, ()), sp0, ()) = some (.inr (([], mineOf P sp0, kidsI ks, S, buf, ()), sp0, ())) := g1
    simp only [ix, e5, e0, e1, e2, e3, cond_false, Bool.not_false, Bool.not_true, cond_true, mA, g1', g2, decide_true]
  · have hin : ∀ q ∈ S, InS q := by
      intro q hqm
      rw [<- hS] at hqm
      rcases List.mem_or_eq_of_mem_set hqm with h | h
      · exact F.ins q h
      · rw [h]
        exact ⟨⟨a1, by show q0.1.1 <= q0.1.2.1 + 1; omega, hsm⟩, a4⟩
    have v1 : ix (N, sp0, ()) = some (true, ()) := by
      rw [<- hN]
      exact aeO (by omega) (by omega) (by omega) F.piv hk4 hin F.buf (by have := F.bl; omega)
    obtain ⟨c1, n, c2, c3⟩ := F.kid 0 hk0
    have hks : ks.getD 0 0 = ks[0] := aX hk0
    rw [hks] at c1 c2
    have hklt := F.lt _ (List.getElem_mem hk0)
    obtain ⟨n2, q2, d1, d2, d3, d4⟩ := afR ht hq c1
    obtain rfl := Option.some.inj (c2.symm.trans d1)
    rw [aX h0, hq0] at c3
    have hq2 : q0 = q2 := congrArg Prod.fst (Option.some.inj (c3.symm.trans d3))
    have hpl := F.pl
    have hgp := F.good
    obtain ⟨parts, hparts⟩ : ∃ p, partsOf sp0 (mineOf P sp0) = p := ⟨_, rfl⟩
    have e5 := ac1 (n := N) (s := sp0) (l := parts) (by rw [hNk]; exact aqs hk0) (by rw [<- hN, <- hparts]; exact F.sp)
    rw [hparts] at hpl c1 hgp
    have hp0 : 0 < parts.length := by omega
    rw [aX hp0] at c1
    have ih := akx ht (ns := ns.set root N) (by rw [List.length_set]; exact hns) pv parts[0] ks[0] (f + 1) 63 hq hsrt (hgp _ (List.getElem_mem hp0)) (c1.set N hklt) (by omega) (by omega) (by omega)
    have hget2 : (ns.set root N)[ks[0]]? = some n := by rw [List.getElem?_set_ne (by omega)]; exact c2
    have hlt3 := (List.getElem?_eq_some_iff.1 hget2).1
    have f3 := me (ns := ns.set root N) (r := fun _ => 1) hlt3
    have f4 : (ns.set root N)[ks[0]]'hlt3 = n := (List.getElem?_eq_some_iff.1 hget2).2
    rw [f4] at f3
    have hlt2 := (List.getElem?_eq_some_iff.1 hget).1
    have f1 := me (ns := ns.set root N) (r := fun _ => 1) hlt2
    have f2 : (ns.set root N)[root]'hlt2 = N := (List.getElem?_eq_some_iff.1 hget).2
    rw [f2] at f1
    have hne : Ty.eqb aG q2 ((q0.1.1, (q0.1.2.1 + 1, ())), q0.2) = false := by
      rw [<- hq2]
      rw [Bool.eq_false_iff]
      intro h
      have h2 : decide (q0.1.2.1 = q0.1.2.1 + 1) = true := by
        simp only [Ty.eqb, Bool.and_eq_true] at h
        exact h.1.2.1
      have := of_decide_eq_true h2
      omega
    have hb : fc (aW (f + 1)) (((64 : Nat) : Int), 0, (parts.length : Int), 0, (mk (ns.set root N) (fun _ => 1), ()), N, parts, ()) = some (.inr (.inl ((0 : Int), ()))) := by
      have e1 : (decide ((0 : Int) < (parts.length : Int))) = true := aJ (by omega)
      have e2 : (decide ((0 : Int) <= (0 : Int))) = true := rfl
      have e7 : (decide ((0 : Int) < ((List.length (kidsI ks) : Nat) : Int))) = true := aJ (by rw [bW]; omega)
      have e8 : (decide ((0 : Int) < ((List.length S : Nat) : Int))) = true := aJ (by omega)
      have w1 : IntKind.i64.wrap (((64 : Nat) : Int) - 1) = ((63 : Nat) : Int) := rfl
      have e10 : (decide (((pv.length + 1 : Nat) : Int) = (0 : Int))) = false := bu (by omega)
      have e11 : (decide ((0 : Int) > (0 : Int))) = false := rfl
      simp only [fc, mr, hNk, hNs, e1, e2, e7, e8, cond_true, Bool.and_self, Int.toNat_zero, aX hp0, m8 hk0, w1, ih, e10, e11, Bool.not_false, cond_false, f3, d2, aX hS0, hSe, hne]
    have hl : nh (aW (f + 1)) (((64 : Nat) : Int), 0, (parts.length : Int), 0, (mk (ns.set root N) (fun _ => 1), ()), N, parts, ()) = some (.inl ((0 : Int), ())) := vD (n := 1) (by rw [sk]; omega) (by simp only [lQ, hb])
    have e3 : (decide (((64 : Nat) : Int) = (0 : Int))) = false := rfl
    have e7 : (decide ((((List.length N.2.2.1) : Int) : Int) = (0 : Int))) = false := by rw [hNk, bW]; exact bu (by omega)
    show bX (aW (f + 1)) _ = _
    simp only [bX, f1, decide_true, Bool.not_true, Bool.not_false, cond_true, e3, v1, jh, cond_false, age, e7, e5, hl]
end
theorem auq : ∀ P pv, P :: pv ∈ LV -> 0 < (mineOf P sp0).length /\ List.getD (partsOf sp0 (mineOf P sp0)) 0 sp0 = ([], (List.getD (mineOf P sp0) 0 [], ())) /\ List.getD (mineOf P sp0) 0 [] ≠ [] := by
  have h : LV.all (fun pv => match pv with
    | [] => true
    | P :: _ => decide (0 < (mineOf P sp0).length) && (decide (List.getD (partsOf sp0 (mineOf P sp0)) 0 sp0 = ([], (List.getD (mineOf P sp0) 0 [], ()))) && !decide (List.getD (mineOf P sp0) 0 [] = []))) = true := by kernel_rfl
  intro P pv hp
  have := List.all_eq_true.1 h _ hp
  simp only [Bool.and_eq_true, decide_eq_true_eq, Bool.not_eq_true', decide_eq_false_iff_not] at this
  exact this
theorem asT (x : aA) (hx : asq x) (v : Int) (ns : List api_Node) (root : Nat) (hns : ns.length <= 43) (ht : TreeS ns (al1 x) (acw x) sp0 root) (hne : acw x ≠ []) :
    cr (v, true, ((mk ns (fun _ => 1), ()), (((root : Nat) : Int), (shp x.2.2.1, ()))), ()) = some (.inl (true, ())) := by
  have hval := ao3 hx (by omega) ht
  have hm := aqv x
  obtain ⟨l1, l2⟩ := aiR _ hm
  have lsrt := apy _ hm
  have lgood := ats _ hm
  have hT : TabOK (al1 x) := asa _ (fun y hy => hx.t.1 y (List.mem_of_mem_take hy)) (by simp; omega)
  have hsh := apI x.2.2.1 hx.w
  obtain ⟨LVx, hLV⟩ : ∃ l, acw x = l := ⟨_, rfl⟩
  rw [hLV] at ht hm l1 l2 lsrt lgood hne
  cases LVx with
  | nil => exact absurd rfl hne
  | cons P pv =>
    obtain ⟨r1, r2, r3⟩ := auq P pv hm
    obtain ⟨ks, sums, buf, F⟩ := awr hT (by omega) l2 lsrt lgood ht
    obtain ⟨sh, hshx⟩ : ∃ s, shp x.2.2.1 = s := ⟨_, rfl⟩
    rw [hshx] at hval hsh ⊢
    have hlt := (List.getElem?_eq_some_iff.1 F.n).1
    have hN : ns[root]'hlt = ([], mineOf P sp0, kidsI ks, sums, buf, ()) := (List.getElem?_eq_some_iff.1 F.n).2
    have hgd : ∀ d : aq, List.getD (mk ns (fun _ => 1)) root d = (true, false, 1, ([], mineOf P sp0, kidsI ks, sums, buf, ()), ()) := fun d => by rw [amu hlt, hN]
    obtain ⟨k1, k2, k3⟩ := And.intro F.kl (And.intro F.sl F.ml)
    have e0 : (decide ((List.length ([] : List (aq)) + List.length (mk ns (fun _ => 1))) * 136 <= am)) = true := aJ (by rw [bT, oI]; simp; omega)
    have e1 := dzz root
    have e2 : (decide ((root : Int) < ((mk ns (fun _ => 1)).length : Int))) = true := aJ (by rw [oI]; omega)
    have hs0 : 0 < sums.length := by omega
    have hsmax : sums[0].1.2.1 <= 1000000000000000 /\ 0 <= sums[0].1.2.1 := by
      obtain ⟨a1, a2, a3⟩ := (F.ins _ (List.getElem_mem hs0)).1
      omega
    unfold cr
    simp only [ct, e0, cond_true, List.nil_append, e1, e2, Bool.and_self, Int.toNat_natCast, hgd]
    cases decide (Int.tmod v 3 = 0) with
    | true =>
      have f1 : (decide ((List.length ([] : List (api_Sum)) + List.length sums) * 32 <= am)) = true := aJ (by rw [bT]; simp; omega)
      have f2 : (decide ((0 : Int) < (sums.length : Int))) = true := aJ (by omega)
      have f3 : IntKind.i64.wrap (sums[0].1.2.1 + 1) = sums[0].1.2.1 + 1 := cI (by omega)
      have g := afa hsh (av3 hT (by omega) F (fun q hq => l2 q (List.mem_cons_of_mem _ hq)) (fun q hq => lsrt q (List.mem_cons_of_mem _ hq)) (by simp at l1; omega) hs0)
      rw [<- aqx _ hlt] at g
      simp only [cond_true, f1, f2, aX hs0, f3]
      have g' : dL (((List.set (mk ns (fun _ => 1)) root (true, (false, (1, (([], (mineOf P sp0, (kidsI ks, (List.set sums 0 ((sums[0].1.1, (sums[0].1.2.1 + 1, sums[0].1.2.2)), sums[0].2), (buf, ()))))), ())))), ()), ((root : Int), (sh, ()))), ()) = some (false, ()) := g
      simp only [g', Bool.not_false, cond_true, hval]
    | false =>
      simp only [cond_false]
      cases decide (Int.tmod v 3 = 1) with
      | true =>
        have f1 : (decide ((List.length ([] : List (List UInt8)) + List.length (mineOf P sp0)) * 16 <= am)) = true := aJ (by rw [bT]; simp; omega)
        have f2 : (decide ((0 : Int) < ((mineOf P sp0).length : Int))) = true := aJ (by omega)
        have g := afa hsh (atX F r1)
        rw [<- aqx _ hlt] at g
        simp only [cond_true, f1, f2]
        have g' : dL (((List.set (mk ns (fun _ => 1)) root (true, (false, (1, (([], (List.set (mineOf P sp0) 0 [], (kidsI ks, (sums, (buf, ()))))), ())))), ()), ((root : Int), (sh, ()))), ()) = some (false, ()) := g
        simp only [g', Bool.not_false, cond_true, hval]
      | false =>
        have f1 : (decide ((List.length ([] : List Int) + List.length (kidsI ks)) * 8 <= am)) = true := aJ (by rw [bT, bW]; simp; omega)
        have f2 : (decide ((0 : Int) < ((kidsI ks).length : Int))) = true := aJ (by rw [bW]; omega)
        have f3 : List.set (kidsI ks) 0 (root : Int) = kidsI (ks.set 0 root) := by
          unfold kidsI
          rw [List.map_set]
        have g := afa hsh (av2 F _ r2 rfl r1 r3)
        rw [<- aqx _ hlt] at g
        simp only [cond_true, cond_false, f1, f2, f3]
        have g' : dL (((List.set (mk ns (fun _ => 1)) root (true, (false, (1, (([], (mineOf P sp0, (kidsI (ks.set 0 root), (sums, (buf, ()))))), ())))), ()), ((root : Int), (sh, ()))), ()) = some (false, ()) := g
        simp only [g', Bool.not_false, cond_true, hval]
theorem aui (x : aA) (hx : asq x) (v : Int) : bp (v, true, x, ()) = some (.inl (true, ())) := by
  obtain ⟨ns, root, h1, h2, h3⟩ := av8 x hx
  have hval := ao3 hx (by omega) h2
  obtain ⟨l1, l2⟩ := aiR _ (aqv x)
  have hok := h2.ok (avF x.1 hx.t.1) l2
  have hh := as5 ns (shp x.2.2.1) root ((acw x).length + 1) ⟨by omega, by omega⟩ hok
  by_cases hne : acw x = []
  · have e : (decide ((((acw x).length + 1 : Nat) : Int) < 2)) = true := by rw [hne]; rfl
    simp only [bp, h1, hval, Bool.not_true, Bool.not_false, cond_true, hh, e, bK]
  · have e : (decide ((((acw x).length + 1 : Nat) : Int) < 2)) = false := bu (by have := List.length_pos_iff.2 hne; omega)
    have c14 := asT x hx v ns root h3 h2 hne
    simp only [bp, h1, hval, Bool.not_true, Bool.not_false, cond_true, cond_false, hh, e, bK, c14]
def aoL (sh : aP) : az := (([(true, (false, (1, (([], ([], ([], ([], ([], ()))))), ()))))], ()), (0, (sh, ())))
theorem auL (sh : aP) (h : fu (sh, ()) = some (true, ())) : qt (sh, ()) = some (aoL sh, 0, ()) := by
  have e : afe ((([] : List (aq)), ()), (([] : List (ae)), (([] : List (List UInt8)), (([] : List (Int)), (([] : List (api_Sum)), (([] : List (ag)), ()))))), ()) = some ((aoL sh).1, 0, 0, ()) := by kernel_rfl
  simp only [qt, h, Bool.not_true, cond_false, e]
  rfl
theorem auM (sh : aP) : xv (aoL sh, (([] : List UInt8), (([] : List UInt8), ())), ()) = some (0, [], ()) := by kernel_rfl
theorem asK (sh : aP) : nH (aoL sh, ()) = some (1, ()) := by kernel_rfl
theorem atW (sh : aP) (h : fu (sh, ()) = some (true, ())) : dL (aoL sh, ()) = some (true, ()) := by
  have e : vY ((aoL sh).1, (aoL sh).2.1, (([] : List UInt8), (([] : List UInt8), ())), (64 : Int), ()) = some (1, ()) := by kernel_rfl
  have h' : fu ((aoL sh).2.2.1, ()) = some (true, ()) := h
  simp only [dL, h', cond_true, e]
  rfl
theorem auh (x : aA) (hx : asq x) (v a b c : Int) (fits : Bool) (h : fu ((a, (b, (c, ()))), ()) = some (fits, ())) (code : Int) (T : az) (hn : qt ((a, (b, (c, ()))), ()) = some (T, code, ())) : bo (v, true, code, fits, x, a, b, c, T, ()) = some (.inl (true, ())) := by
  have j2 := aui x hx v
  cases fits with
  | true =>
    have hn2 := (auL _ h).symm.trans hn
    obtain ⟨rfl, rfl⟩ : aoL (a, (b, (c, ()))) = T /\ (0 : Int) = code := by
      have := Option.some.inj hn2
      exact ⟨congrArg Prod.fst this, congrArg (fun q => q.2.1) this⟩
    have e0 : (decide ((0 : Int) = 0)) = true := rfl
    have e1 : (decide ((1 : Int) = 1)) = true := rfl
    have e2 : (decide ((List.length ([] : List ae) : Int) = 0)) = true := rfl
    have e3 : Ty.eqb ft (aoL (a, (b, (c, ())))).2.2.1 (a, (b, (c, ()))) = true := rN _ _
    simp only [bo, e0, BEq.rfl, Bool.not_true, Bool.not_false, cond_true, cond_false, bx, cj, bj, auM, e2, atW _ h, asK, e1, e3, j2]
    rfl
  | false =>
    have hn2 : qt ((a, (b, (c, ()))), ()) = some (((([] : List (aq)), ()), ((0 : Int), (((0 : Int), ((0 : Int), ((0 : Int), ()))), ()))), (120 : Int), ()) := by
      simp only [qt, h, Bool.not_false, cond_true]
    have hn3 := hn2.symm.trans hn
    have hc : (120 : Int) = code := congrArg (fun q => q.2.1) (Option.some.inj hn3)
    subst hc
    have e0 : (decide ((120 : Int) = 0)) = false := rfl
    have e1 : (decide ((120 : Int) = 120)) = true := rfl
    simp only [bo, e0, decide_true, BEq.rfl, Bool.not_true, Bool.not_false, cond_true, cond_false, bx, cj, bj, j2]
theorem amk (w : aP) (x : aA) (v : Int) (hx : asq x) : kO (w, x, v, ()) = some (true, ()) := by
  obtain ⟨a, ha⟩ : ∃ a, IntKind.i64.wrap w.1 = a := ⟨_, rfl⟩
  obtain ⟨b, hb⟩ : ∃ b, IntKind.i64.wrap w.2.1 = b := ⟨_, rfl⟩
  obtain ⟨c, hc⟩ : ∃ c, IntKind.i64.wrap w.2.2.1 = c := ⟨_, rfl⟩
  obtain ⟨r, hr⟩ : ∃ r, qt ((a, (b, (c, ()))), ()) = some r := by
    have : ∃ f, fu ((a, (b, (c, ()))), ()) = some (f, ()) := by
      simp only [fu, qY]
      cases decide (2 <= a) <;> cases decide (a <= 64) <;> cases decide (2 <= b) <;> cases decide (b <= 16) <;> cases decide (1 <= c) <;> exact ⟨_, rfl⟩
    obtain ⟨f, hf⟩ := this
    cases f with
    | true => exact ⟨_, auL _ hf⟩
    | false => exact ⟨_, by simp only [qt, hf, Bool.not_false, cond_true]; rfl⟩
  obtain ⟨T, code, u⟩ := r
  have main : ∀ fits, fu ((a, (b, (c, ()))), ()) = some (fits, ()) -> bo (v, true, code, fits, x, a, b, c, T, ()) = some (.inl (true, ())) := fun fits hf => auh x hx v a b c fits hf code T hr
  unfold kO
  rw [ava]
  simp only [ha, hb, hc, hr]
  simp only [fu, qY] at main
  cases h1 : decide (a >= 2) with
  | false =>
    have h1' : decide (2 <= a) = false := h1
    simp only [cond_false]
    rw [main false (by simp only [h1', cond_false])]
  | true =>
    have h1' : decide (2 <= a) = true := h1
    cases h2 : decide (a <= 64) with
    | false =>
      simp only [cond_true, cond_false]
      rw [main false (by simp only [h1', h2, cond_true, cond_false])]
    | true =>
      cases h3 : decide (b >= 2) with
      | false =>
        have h3' : decide (2 <= b) = false := h3
        simp only [cond_true, cond_false]
        rw [main false (by simp only [h1', h2, h3', cond_true, cond_false])]
      | true =>
        have h3' : decide (2 <= b) = true := h3
        cases h4 : decide (b <= 16) with
        | false =>
          simp only [cond_true, cond_false]
          rw [main false (by simp only [h1', h2, h3', h4, cond_true, cond_false])]
        | true =>
          cases h5 : decide (c >= 1) with
          | false =>
            have h5' : decide (1 <= c) = false := h5
            simp only [cond_true, cond_false]
            rw [main false (by simp only [h1', h2, h3', h4, h5', cond_true, cond_false])]
          | true =>
            have h5' : decide (1 <= c) = true := h5
            simp only [cond_true]
            rw [main _ (by simp only [h1', h2, h3', h4, h5', cond_true])]
theorem ahS {x : Int} (h : (Lit.int .u8 x).wf = true) : 0 <= x /\ x < 256 := by
  simp [Lit.wf, IntKind.min, IntKind.max, IntKind.signed, IntKind.bits] at h
  omega
abbrev tR3 : Ty := .pair (.int .u8) (.pair (.int .u8) (.pair (.int .u8) .unit))
abbrev tR6 : Ty := .pair (.int .u8) (.pair (.int .u8) (.pair (.int .u8) (.pair (.int .u8) (.pair (.int .u8) (.pair (.int .u8) .unit)))))
abbrev avf : Ty := .pair (.list tR3) (.pair (.pair (.list tR6) (.pair (.list tR6) (.pair (.list tR6) (.pair (.list tR6) .unit)))) (.pair (.int .u8) .unit))
theorem aqk {B : Ty -> Nat} (hB : B tR6 = 6) {l : List R5} (h : Ty.good B (.list tR6) l) : (∀ y ∈ l, raw6n y) /\ l.length < 1000000000000000000 := by
  obtain ⟨h1, h2⟩ := h
  refine ⟨fun x hx => ?_, ?_⟩
  · have h := h2 x hx
    exact ⟨⟨ahS h.1, ahS h.2.1, ahS h.2.2.1, ahS h.2.2.2.1⟩, ahS h.2.2.2.2.1, ahS h.2.2.2.2.2.1⟩
  · rw [hB] at h1
    unfold reachBytes at h1
    omega
theorem avv {B : Ty -> Nat} (hB : B tR3 = 3) {l : List aP} (h : Ty.good B (.list tR3) l) : (∀ y ∈ l, raw24 y) /\ l.length < 1000000000000000000 := by
  obtain ⟨h1, h2⟩ := h
  refine ⟨fun x hx => ?_, ?_⟩
  · have h := h2 x hx
    exact ⟨ahS h.1, ahS h.2.1, ahS h.2.2.1⟩
  · rw [hB] at h1
    unfold reachBytes at h1
    omega
theorem awt {B : Ty -> Nat} (h3 : B tR3 = 3) (h6 : B tR6 = 6) {x : aA} (h : Ty.good B avf x) : asq x :=
  ⟨⟨aqk h6 h.2.1.1, aqk h6 h.2.1.2.1, aqk h6 h.2.1.2.2.1, aqk h6 h.2.1.2.2.2.1⟩, avv h3 h.1, ahS h.2.2.1⟩
theorem aow {B : Ty -> Nat} (h3 : B tR3 = 3) (h6 : B tR6 = 6) (y0 : aP) (y1 : aA) (y2 : Int) {p : Prop} (g0 : p) (g1 : Ty.good B avf y1) (g2 : Ty.good B (.int .u8) y2) : kO (y0, y1, y2, ()) = some (true, ()) :=
  amk y0 y1 y2 (awt h3 h6 g1)
end D
