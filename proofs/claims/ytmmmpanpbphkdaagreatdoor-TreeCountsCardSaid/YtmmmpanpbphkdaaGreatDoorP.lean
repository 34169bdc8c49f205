/- Plain: rules for loops, numbers, and the order of texts. -/
import Derived.Test.YtmmmpanpbphkdaaGreatDoorXC
import Derived.Test.YtmmmpanpbphkdaaGreatDoorD
import Derived.KernelRfl
set_option linter.unusedVariables false
set_option linter.unusedSimpArgs false
open Go Go.X
namespace D
theorem aK {p : Prop} [Decidable p] (h : p) : decide p = true := decide_eq_true h
theorem bK {p : Prop} [Decidable p] (h : ¬ p) : decide p = false := decide_eq_false h
theorem cE {x : Int} (h : -9223372036854775808 <= x /\ x < 9223372036854775808) : IntKind.i64.wrap x = x := a3U h.1 h.2
theorem fa {α : Type} {l : List α} {i : Nat} {d : α} (h : i < l.length) : List.getD l i d = l[i] := by
  simp [List.getD, h]
theorem cD : aw = 140737488355328 := rfl
def atT {α σ ρ : Type} (step : σ -> α -> σ ⊕ ρ) (fin : σ -> ρ) : List α -> σ -> ρ
  | [], s => fin s
  | a :: l, s => match step s a with
    | .inl t => atT step fin l t
    | .inr r => r
theorem aqU : aqr = 1000000000000000000000000 := rfl
theorem a3m {S ρ σ α : Type} {b : S -> Option (S ⊕ ρ)} (mk : Nat -> σ -> S) (step : σ -> α -> σ ⊕ ρ) (fin : σ -> ρ) (xs : List α) (Inv : Nat -> σ -> Prop) (hlen : xs.length < 1000000000000000000)
    (h1 : ∀ i (hi : i < xs.length) s, Inv i s -> (∃ t, step s xs[i] = .inl t /\ Inv (i + 1) t /\ b (mk i s) = some (.inl (mk (i + 1) t))) \/ (∃ r, step s xs[i] = .inr r /\ b (mk i s) = some (.inr r)))
    (h2 : ∀ s, Inv xs.length s -> b (mk xs.length s) = some (.inr (fin s))) (s : σ) (hs : Inv 0 s) : aP b (mk 0 s) = some (atT step fin xs s) := by
  have key : ∀ (k i : Nat) (s : σ), i + k = xs.length -> Inv i s -> lK b (k + 1) (mk i s) = some (atT step fin (xs.drop i) s) := by
    intro k
    induction k with
    | zero =>
      intro i s hi hv
      have hi : i = xs.length := by omega
      subst hi
      simp only [lK, h2 s hv, List.drop_length, atT]
    | succ k ih =>
      intro i s hi hv
      have hi2 : i < xs.length := by omega
      rw [List.drop_eq_getElem_cons hi2, atT]
      rcases h1 i hi2 s hv with ⟨t, e1, e2, e3⟩ | ⟨r, e1, e2⟩
      · rw [e1]
        simp only [lK, e3]
        exact ih (i + 1) t (by omega) e2
      · rw [e1]
        simp only [lK, e2]
  exact atb (n := xs.length + 1) (by rw [aqU]; omega) (key xs.length 0 s (by omega) hs)
theorem eu {S ρ σ : Type} {b : S -> Option (S ⊕ ρ)} (mk : Nat -> σ -> S) (N : Nat) (Inv : Nat -> σ -> Prop) (Q : ρ -> Prop) (hlen : N < 1000000000000000000)
    (h1 : ∀ i, i < N -> ∀ s, Inv i s -> (∃ t, Inv (i + 1) t /\ b (mk i s) = some (.inl (mk (i + 1) t))) \/ (∃ r, Q r /\ b (mk i s) = some (.inr r)))
    (h2 : ∀ s, Inv N s -> ∃ r, Q r /\ b (mk N s) = some (.inr r)) (s : σ) (hs : Inv 0 s) : ∃ r, aP b (mk 0 s) = some r /\ Q r := by
  have key : ∀ (k i : Nat) (s : σ), i + k = N -> Inv i s -> ∃ r, lK b (k + 1) (mk i s) = some r /\ Q r := by
    intro k
    induction k with
    | zero =>
      intro i s hi hv
      have hi : i = N := by omega
      subst hi
      obtain ⟨r, q, e⟩ := h2 s hv
      exact ⟨r, by simp only [lK, e], q⟩
    | succ k ih =>
      intro i s hi hv
      rcases h1 i (by omega) s hv with ⟨t, e2, e3⟩ | ⟨r, e1, e2⟩
      · obtain ⟨r, e, q⟩ := ih (i + 1) t (by omega) e2
        exact ⟨r, by simp only [lK, e3]; exact e, q⟩
      · exact ⟨r, by simp only [lK, e2], e1⟩
  obtain ⟨r, e, q⟩ := key N 0 s (by omega) hs
  exact ⟨r, atb (n := N + 1) (by rw [aqU]; omega) e, q⟩
theorem ao5 {α : Type} {l : List α} {i : Nat} (h : i < l.length) : l.take (i + 1) = l.take i ++ [l[i]] := by
  rw [List.take_add_one, List.getElem?_eq_getElem h]; rfl
abbrev blt := Op.bytesLess
theorem ake : ∀ a, Op.bytesLess a a = false
  | [] => rfl
  | a :: x => by simp [Op.bytesLess, ake x]
theorem anX : ∀ {a b c}, Op.bytesLess a b = true -> Op.bytesLess b c = true -> Op.bytesLess a c = true
  | [], [], _, h, _ => by simp [Op.bytesLess] at h
  | _ :: _, [], _, h, _ => by simp [Op.bytesLess] at h
  | _, _ :: _, [], _, h => by simp [Op.bytesLess] at h
  | [], _ :: _, _ :: _, _, _ => rfl
  | a :: x, b :: y, c :: z, h, g => by
    simp only [Op.bytesLess, Bool.or_eq_true, decide_eq_true_eq, Bool.and_eq_true, beq_iff_eq] at h g ⊢
    rcases h with h | ⟨rfl, h⟩
    · rcases g with g | ⟨rfl, g⟩
      · exact .inl (UInt8.lt_trans h g)
      · exact .inl h
    · rcases g with g | ⟨rfl, g⟩
      · exact .inl g
      · exact .inr ⟨rfl, anX h g⟩
theorem anW : ∀ a b, Op.bytesLess a b = true \/ a = b \/ Op.bytesLess b a = true
  | [], [] => .inr (.inl rfl)
  | [], _ :: _ => .inl rfl
  | _ :: _, [] => .inr (.inr rfl)
  | a :: x, b :: y => by
    simp only [Op.bytesLess, Bool.or_eq_true, decide_eq_true_eq, Bool.and_eq_true, beq_iff_eq, List.cons.injEq]
    rcases UInt8.lt_or_lt_of_ne (a := a) (b := b) |> fun h => (Decidable.em (a = b)).elim (fun e => Or.inl e) (fun e => Or.inr (h e)) with h | h | h
    · subst h
      rcases anW x y with h | h | h
      · exact .inl (.inr ⟨rfl, h⟩)
      · exact .inr (.inl ⟨rfl, h⟩)
      · exact .inr (.inr (.inr ⟨rfl, h⟩))
    · exact .inl (.inl h)
    · exact .inr (.inr (.inl h))
theorem a1X {a b} (h : Op.bytesLess a b = true) : Op.bytesLess b a = false := by
  cases hb : Op.bytesLess b a
  · rfl
  · have := anX h hb
    rw [ake] at this
    cases this
theorem a2N {a b} (h : Op.bytesLess a b = true) : a ≠ b := by
  rintro rfl
  rw [ake] at h
  cases h
end D
/- Plain: lists that are sorted by a text. -/
open Go Go.X
namespace D
theorem ahn {S ρ : Type} {b : S -> Option (S ⊕ ρ)} (μ : S -> Nat) (Inv : S -> Prop) (Q : ρ -> Prop)
    (h : ∀ s, Inv s -> (∃ t, b s = some (.inl t) /\ Inv t /\ μ t < μ s) \/ (∃ r, b s = some (.inr r) /\ Q r)) (s : S) (hs : Inv s) (hm : μ s < 100000000000000000000) : ∃ r, aP b s = some r /\ Q r := by
  have key : ∀ n s, μ s < n -> Inv s -> ∃ r, lK b n s = some r /\ Q r := by
    intro n
    induction n with
    | zero => intro s h; omega
    | succ n ih =>
      intro s hn hi
      rcases h s hi with ⟨t, e, it, lt⟩ | ⟨r, e, q⟩
      · obtain ⟨r, e2, q⟩ := ih t (by omega) it
        exact ⟨r, by simp only [lK, e, e2], q⟩
      · exact ⟨r, by simp only [lK, e], q⟩
  obtain ⟨r, e, q⟩ := key (μ s + 1) s (by omega) hs
  exact ⟨r, atb (n := μ s + 1) (by rw [aqU]; omega) e, q⟩
section
variable {α : Type} (key : α -> List UInt8)
def Srt (l : List α) : Prop := l.Pairwise fun a b => Op.bytesLess (key a) (key b) = true
def a0X (x : α) : List α -> List α
  | [] => [x]
  | a :: l => if Op.bytesLess (key x) (key a) = true then x :: a :: l else a :: a0X x l
variable {key}
theorem Srt.tail {a : α} {l : List α} (h : Srt key (a :: l)) : Srt key l := (List.pairwise_cons.1 h).2
theorem Srt.head {a : α} {l : List α} (h : Srt key (a :: l)) : ∀ b ∈ l, Op.bytesLess (key a) (key b) = true := (List.pairwise_cons.1 h).1
def a4G (k : List UInt8) (l : List α) : Bool := l.any fun a => decide (key a = k)
theorem a0g {x b : α} : ∀ {l : List α}, b ∈ a0X key x l ↔ b = x \/ b ∈ l
  | [] => by simp [a0X]
  | a :: l => by
    unfold a0X
    split
    · simp
    · simp only [List.mem_cons, a0g (l := l)]
      constructor
      · rintro (h | h | h)
        · exact .inr (.inl h)
        · exact .inl h
        · exact .inr (.inr h)
      · rintro (h | h | h)
        · exact .inr (.inl h)
        · exact .inl h
        · exact .inr (.inr h)
theorem Srt.ins {x : α} : ∀ {l : List α}, Srt key l -> a4G (key := key) (key x) l = false -> Srt key (a0X key x l)
  | [], _, _ => by simp [a0X, Srt]
  | a :: l, hs, hn => by
    simp only [a4G, List.any_cons, Bool.or_eq_false_iff, decide_eq_false_iff_not] at hn
    unfold a0X
    split
    · rename_i h
      refine List.pairwise_cons.2 ⟨fun b hb => ?_, hs⟩
      rcases List.mem_cons.1 hb with rfl | hb
      · exact h
      · exact anX h (hs.head b hb)
    · rename_i h
      have h2 : Op.bytesLess (key a) (key x) = true := by
        rcases anW (key a) (key x) with h3 | h3 | h3
        · exact h3
        · exact absurd h3 hn.1
        · exact absurd h3 h
      refine List.pairwise_cons.2 ⟨fun b hb => ?_, Srt.ins hs.tail hn.2⟩
      rcases a0g.1 hb with rfl | hb
      · exact h2
      · exact hs.head b hb
end
end D
/- The example of the law comes out as it should. -/
set_option maxRecDepth 100000
namespace D
open Go
theorem a33 : acP () = some (true, ()) := by kernel_rfl
end D
/- Plain: pools: slots, nodes got. -/
open Go Go.X
namespace D
theorem a0u {p : List ak} {i : Nat} (h : i < p.length) : xS ((p, ()), (i : Int), ()) = some (p[i].1, ()) := by
  have h1 : (decide (((i : Nat) : Int) >= 0)) = true := aK (by omega)
  have h2 : (decide (((i : Nat) : Int) < (List.length p : Int))) = true := aK (by omega)
  have h3 : (decide ((0 : Int) <= (i : Int))) = true := aK (by omega)
  simp only [xS, h1, h2, h3, cond_true, Bool.and_self, Int.toNat_natCast, fa h]
theorem a1q {p : List ak} {i : Nat} (h : i < p.length) (hu : p[i].1 = true) (hl : p[i].2.1 = false) : mS ((p, ()), (i : Int), ()) = some (p[i].2.2.2.1, 0, ()) := by
  have h2 : (decide (((i : Nat) : Int) < (List.length p : Int))) = true := aK (by omega)
  have h3 : (decide ((0 : Int) <= (i : Int))) = true := aK (by omega)
  simp only [mS, a0u h, hu, hl, h2, h3, cond_true, cond_false, Bool.not_true, Bool.and_self, Int.toNat_natCast, fa h]
theorem ak5 {p : List ak} {i : Nat} (h : i < p.length) : v7 ((p, ()), (i : Int), ()) = some (p[i].1, ()) := by
  have h1 : (decide (((i : Nat) : Int) >= 0)) = true := aK (by omega)
  have h2 : (decide (((i : Nat) : Int) < (List.length p : Int))) = true := aK (by omega)
  have h3 : (decide ((0 : Int) <= (i : Int))) = true := aK (by omega)
  simp only [v7, h1, h2, h3, cond_true, Bool.and_self, Int.toNat_natCast, fa h]
theorem a0v {p : List ak} {i : Nat} (h : i < p.length) : vQ ((i : Int), p, ()) = some (p[i].1, p, ()) := by
  have h1 : (decide (((i : Nat) : Int) >= 0)) = true := aK (by omega)
  have h2 : (decide (((i : Nat) : Int) < (List.length p : Int))) = true := aK (by omega)
  have h3 : (decide ((0 : Int) <= (i : Int))) = true := aK (by omega)
  simp only [vQ, h1, h2, h3, cond_true, Bool.and_self, Int.toNat_natCast, fa h]
theorem a20 {p : List ak} {i : Nat} (h : i < p.length) (hu : p[i].1 = true) (hl : p[i].2.1 = false) : v6 ((p, ()), (i : Int), ()) = some (p[i].2.2.2.1, 0, ()) := by
  have h2 : (decide (((i : Nat) : Int) < (List.length p : Int))) = true := aK (by omega)
  have h3 : (decide ((0 : Int) <= (i : Int))) = true := aK (by omega)
  simp only [v6, ak5 h, hu, hl, h2, h3, cond_true, cond_false, Bool.not_true, Bool.and_self, Int.toNat_natCast, fa h]
end D
/- Plain: pools that are made by adding nodes only. -/
open Go Go.X
namespace D
def mk (ns : List api_Node) (r : Nat -> Int) : List ak := ns.mapIdx fun i n => (true, false, r i, n, ())
theorem uq (ns : List api_Node) (r : Nat -> Int) : (mk ns r).length = ns.length := by simp [mk]
theorem uo {ns : List api_Node} {r : Nat -> Int} {i : Nat} (h : i < (mk ns r).length) : (mk ns r)[i] = (true, false, r i, ns[i]'(by rw [<- uq ns r]; exact h), ()) := by simp [mk]
theorem ayE {ns : List api_Node} {r : Nat -> Int} {i : Nat} (h : i < ns.length) (d : ak) : List.getD (mk ns r) i d = (true, false, r i, ns[i], ()) := by
  rw [fa (by rw [uq]; exact h), uo]
theorem a3r {ns : List api_Node} {r : Nat -> Int} {i : Nat} (h : i < ns.length) (v : Int) : (mk ns r).set i (true, false, v, ns[i], ()) = mk ns (fun j => if j = i then v else r j) := by
  apply List.ext_getElem
  · simp [mk]
  · intro j h1 h2
    rw [uo, List.getElem_set]
    split
    · rename_i e; subst e; simp
    · rename_i e
      rw [uo]
      simp [Ne.symm e]
theorem afY {ns : List api_Node} {r r' : Nat -> Int} (h : ∀ i, i < ns.length -> r i = r' i) : mk ns r = mk ns r' := by
  apply List.ext_getElem
  · simp [mk]
  · intro j h1 h2
    rw [uo, uo, h j (by rw [<- uq ns r]; exact h1)]
theorem a3Q (ns : List api_Node) (n : api_Node) (r : Nat -> Int) : mk ns r ++ [(true, false, r ns.length, n, ())] = mk (ns ++ [n]) r := by
  simp [mk, List.mapIdx_append]
theorem zP {ns : List api_Node} {r : Nat -> Int} {i : Nat} (h : i < ns.length) : mS ((mk ns r, ()), (i : Int), ()) = some (ns[i], 0, ()) := by
  have h' : i < (mk ns r).length := by rw [uq]; exact h
  rw [a1q h' (by rw [uo]) (by rw [uo]), uo]
theorem akq {ns : List api_Node} {r : Nat -> Int} {i : Nat} (h : i < ns.length) : v6 ((mk ns r, ()), (i : Int), ()) = some (ns[i], 0, ()) := by
  have h' : i < (mk ns r).length := by rw [uq]; exact h
  rw [a20 h' (by rw [uo]) (by rw [uo]), uo]
theorem awN {p : List ak} (h : p.length <= 100000) : u9 ((p, ()), ()) = some (p, ()) := by
  have h1 : (decide ((List.length ([] : List (ak)) + List.length p) * 136 <= aw)) = true := aK (by rw [cD]; simp; omega)
  simp only [u9, h1, cond_true, List.nil_append]
def kR (ks : List Nat) : List Int := ks.map fun (k : Nat) => (k : Int)
theorem gG (ks : List Nat) : (kR ks).length = ks.length := by simp [kR]
theorem vt {ks : List Nat} {i : Nat} (h : i < ks.length) : List.getD (kR ks) i 0 = ((ks[i] : Nat) : Int) := by
  rw [fa (by rw [gG]; exact h)]
  simp [kR]
theorem a4e {ns : List api_Node} {r : Nat -> Int} {n : api_Node} {ks : List Nat} (hk : n.2.2.1 = kR ks) (hr : ∀ k ∈ ks, k < ns.length) (hl : ks.length <= 1000) :
    adk (0, (mk ns r, ()), n, [], 0, 0, ()) = some (.inr ((mk ns r, ()), n, [], 0, 0, ())) := by
  obtain ⟨z, h1, h2⟩ := eu (b := u5) (fun i (_ : Unit) => ((i : Int), (mk ns r, ()), n, [], 0, 0, ())) ks.length (fun _ _ => True) (fun z => z = .inr ((mk ns r, ()), n, [], 0, 0, ())) (by omega)
    (fun i hi _ _ => by
      left
      refine ⟨(), trivial, ?_⟩
      have e1 : (decide (((i : Nat) : Int) < ((List.length n.2.2.1) : Int))) = true := aK (by rw [hk, gG]; omega)
      have e2 : (decide ((0 : Int) <= (i : Int))) = true := aK (by omega)
      have e3 : IntKind.i64.wrap ((i : Int) + 1) = ((i + 1 : Nat) : Int) := by rw [cE (by omega)]; omega
      have hi' : ks[i] < (mk ns r).length := by rw [uq]; exact hr _ (List.getElem_mem hi)
      have e7 : List.getD n.2.2.1 i 0 = ((ks[i] : Nat) : Int) := by rw [hk, vt hi]
      simp only [u5, e1, e2, cond_true, Bool.and_self, Int.toNat_natCast, e7, ak5 hi', uo, Bool.not_true, cond_false, e3])
    (fun _ _ => by
      have e1 : (decide (((ks.length : Nat) : Int) < ((List.length n.2.2.1) : Int))) = false := bK (by rw [hk, gG]; omega)
      exact ⟨_, rfl, by simp only [u5, e1, cond_false]⟩) () trivial
  subst h2
  exact h1
theorem a4f {ns : List api_Node} {r : Nat -> Int} {n : api_Node} (hl : ns.length <= 1000) :
    adl (0, (mk ns r, ()), n, [], 0, 0, ()) = some (.inl ((ns.length : Int), (mk ns r, ()), n, [], 0, 0, ())) := by
  obtain ⟨z, h1, h2⟩ := eu (b := u6) (fun i (_ : Unit) => ((i : Int), (mk ns r, ()), n, [], 0, 0, ())) ns.length (fun _ _ => True) (fun z => z = .inl ((ns.length : Int), (mk ns r, ()), n, [], 0, 0, ())) (by omega)
    (fun i hi _ _ => by
      left
      refine ⟨(), trivial, ?_⟩
      have e1 : (decide (((i : Nat) : Int) < ((List.length (mk ns r)) : Int))) = true := aK (by rw [uq]; omega)
      have e2 : (decide ((0 : Int) <= (i : Int))) = true := aK (by omega)
      have e3 : IntKind.i64.wrap ((i : Int) + 1) = ((i + 1 : Nat) : Int) := by rw [cE (by omega)]; omega
      simp only [u6, e1, e2, cond_true, Bool.and_self, Int.toNat_natCast, ayE hi, e3])
    (fun _ _ => by
      have e1 : (decide (((ns.length : Nat) : Int) < ((List.length (mk ns r)) : Int))) = false := bK (by rw [uq]; omega)
      exact ⟨_, rfl, by simp only [u6, e1, cond_false]⟩) () trivial
  subst h2
  exact h1
theorem a4g {ns : List api_Node} {n : api_Node} {ks : List Nat} {c : Int} (hk : n.2.2.1 = kR ks) (hr : ∀ k ∈ ks, k < ns.length) (hn : ks.Nodup) (hl : ks.length <= 1000) :
    adm (c, 0, n, [], 0, 0, mk ns (fun _ => 1), ()) = some (.inl (c, [], 0, 0, mk ns (fun j => if j ∈ ks then 2 else 1), ())) := by
  obtain ⟨z, h1, h2⟩ := eu (b := u7) (fun i (l : List ak) => (c, (i : Int), n, [], 0, 0, l, ())) ks.length (fun i l => l = mk ns (fun j => if j ∈ ks.take i then 2 else 1)) (fun z => z = .inl (c, [], 0, 0, mk ns (fun j => if j ∈ ks then 2 else 1), ())) (by omega)
    (fun i hi l hl => by
      left
      subst hl
      refine ⟨_, rfl, ?_⟩
      have hik : ks[i] < ns.length := hr _ (List.getElem_mem hi)
      have e1 : (decide (((i : Nat) : Int) < ((List.length n.2.2.1) : Int))) = true := aK (by rw [hk, gG]; omega)
      have e2 : (decide ((0 : Int) <= (i : Int))) = true := aK (by omega)
      have e3 : IntKind.i64.wrap ((i : Int) + 1) = ((i + 1 : Nat) : Int) := by rw [cE (by omega)]; omega
      have e4 : (decide ((0 : Int) <= ((ks[i] : Nat) : Int))) = true := aK (by omega)
      have e5 : ∀ r, (decide (((ks[i] : Nat) : Int) < (List.length (mk ns r) : Int))) = true := fun r => aK (by rw [uq]; omega)
      have hnot : ks[i] ∉ ks.take i := fun hm => by
        have h2 := ao5 hi
        have hnd : (ks.take (i + 1)).Nodup := hn.sublist (List.take_sublist _ _)
        rw [h2, List.nodup_append] at hnd
        exact hnd.2.2 _ hm _ (by simp) rfl
      have e7 : List.getD n.2.2.1 i 0 = ((ks[i] : Nat) : Int) := by rw [hk, vt hi]
      simp only [u7, e1, e2, cond_true, Bool.and_self, Int.toNat_natCast, e7, e4, e5, ayE hik, e3, if_neg hnot]
      have e6 : IntKind.i64.wrap ((1 : Int) + 1) = 2 := by rw [cE (by omega)]; omega
      have e8 : mk ns (fun j => if j = ks[i] then 2 else if j ∈ ks.take i then 2 else 1) = mk ns (fun j => if j ∈ ks.take (i + 1) then 2 else 1) := afY fun j _ => by
        have hm : j ∈ ks.take (i + 1) ↔ (j ∈ ks.take i \/ j = ks[i]) := by rw [ao5 hi, List.mem_append, List.mem_singleton]
        by_cases hj : j = ks[i]
        · rw [if_pos hj, if_pos (hm.2 (.inr hj))]
        · rw [if_neg hj]
          by_cases h2 : j ∈ ks.take i
          · rw [if_pos h2, if_pos (hm.2 (.inl h2))]
          · rw [if_neg h2, if_neg (fun h => (hm.1 h).elim h2 hj)]
      rw [e6, a3r hik, e8])
    (fun l hl => by
      subst hl
      have e1 : (decide (((ks.length : Nat) : Int) < ((List.length n.2.2.1) : Int))) = false := bK (by rw [hk, gG]; omega)
      exact ⟨_, rfl, by simp only [u7, e1, cond_false, List.take_length]⟩) (mk ns (fun _ => 1)) (afY fun j _ => by simp)
  subst h2
  exact h1
theorem a2K {ns : List api_Node} {n : api_Node} {ks : List Nat} (hk : n.2.2.1 = kR ks) (hr : ∀ k ∈ ks, k < ns.length) (hn : ks.Nodup) (hl : ks.length <= 1000) (hnl : ns.length <= 900) :
    sZ ((mk ns (fun _ => 1), ()), n, ()) = some (((mk (ns ++ [n]) (fun j => if j ∈ ks then 2 else 1), ()), ((ns.length : Int), (0, ()))), ()) := by
  have e1 : (decide (((ns.length : Nat) : Int) >= 4096)) = false := bK (by omega)
  have hlen : (mk ns (fun _ => 1)).length = ns.length := uq _ _
  have e2 : (decide (((ns.length : Nat) : Int) = ((List.length (mk ns (fun _ => 1))) : Int))) = true := aK (by rw [hlen])
  have e3 : ∀ d : ak, (decide ((List.length (mk ns (fun _ => 1)) + List.length ([d] : List (ak))) * 136 <= aw)) = true := fun d => aK (by rw [hlen, cD]; simp; omega)
  have e4 : (decide ((0 : Int) <= ((ns.length : Nat) : Int))) = true := aK (by omega)
  have e5 : ∀ d : ak, (decide (((ns.length : Nat) : Int) < (List.length (mk ns (fun _ => 1) ++ [d]) : Int))) = true := fun d => aK (by simp [hlen]; omega)
  have e6 : ∀ d : ak, List.set (mk ns (fun _ => 1) ++ [d]) ns.length (true, false, 1, n, ()) = mk (ns ++ [n]) (fun _ => 1) := fun d => by
    rw [<- a3Q, <- hlen, List.set_append_right _ _ (Nat.le_refl _)]
    simp
  have h2 := a4g (ns := ns ++ [n]) (n := n) (ks := ks) (c := (ns.length : Int)) hk (fun k hk => by have := hr k hk; simp; omega) hn hl
  simp only [sZ, a4e hk hr hl, a4f (show ns.length <= 1000 by omega), e1, cond_false, awN (show (mk ns (fun _ => 1)).length <= 100000 by omega), e2, e3, cond_true, adj, e4, e5, Bool.and_self, Int.toNat_natCast, e6, h2]
end D
/- Plain: a node that is held twice is dropped once. -/
open Go Go.X
namespace D
theorem a3H {ns : List api_Node} {r : Nat -> Int} {k : Nat} (hk : k < ns.length) (hr : r k = 2) :
    aaU ([(k : Int)], [], mk ns r, ()) = some (.inl ([], mk ns (fun j => if j = k then 1 else r j), ())) := by
  obtain ⟨z, h1, h2⟩ := eu (b := rE) (fun i (q : List Int × List ak) => (q.1, [], q.2, ())) 1 (fun i q => (i = 0 /\ q = ([(k : Int)], mk ns r)) \/ (i = 1 /\ q = ([], mk ns (fun j => if j = k then 1 else r j))))
    (fun z => z = .inl ([], mk ns (fun j => if j = k then 1 else r j), ())) (by omega)
    (fun i hi q hq => by
      left
      obtain ⟨rfl, rfl⟩ := hq.resolve_right (by omega)
      refine ⟨_, .inr ⟨rfl, rfl⟩, ?_⟩
      have hk' : k < (mk ns r).length := by rw [uq]; exact hk
      have e1 : (decide ((0 : Int) <= (k : Int))) = true := aK (by omega)
      have e2 : ∀ r', (decide ((k : Int) < (List.length (mk ns r') : Int))) = true := fun r' => aK (by rw [uq]; omega)
      have e3 : IntKind.i64.wrap ((2 : Int) - 1) = 1 := by rw [cE (by omega)]; omega
      have e4 : List.drop (Int.toNat (1 : Int)) (List.take (Int.toNat (List.length [(k : Int)] : Int)) [(k : Int)]) = [] := rfl
      have e5 : List.getD [(k : Int)] 0 0 = (k : Int) := rfl
      have e6 : (decide ((((List.length [(k : Int)]) : Int) : Int) > (0 : Int))) = true := rfl
      have e7 : (decide (((0 : Int) : Int) < (List.length [(k : Int)] : Int))) = true := rfl
      have e8 : (decide (((1 : Int) : Int) <= (List.length [(k : Int)] : Int)) && decide (((List.length [(k : Int)] : Int) : Int) <= (List.length [(k : Int)] : Int))) = true := rfl
      have e9 : (decide ((1 : Int) = (0 : Int))) = false := rfl
      simp only [rE, e6, e7, e8, cond_true, e4, e5, a0v hk', uo, Bool.not_true, cond_false, e1, e2, Bool.and_self, Int.toNat_natCast, ayE hk, hr, e3, a3r hk, if_true, e9]
      rfl)
    (fun q hq => by
      obtain ⟨-, rfl⟩ := hq.resolve_left (by omega)
      have e6 : (decide ((((List.length ([] : List Int)) : Int) : Int) > (0 : Int))) = false := rfl
      exact ⟨_, rfl, by simp only [rE, e6, cond_false]⟩) ([(k : Int)], mk ns r) (.inl ⟨rfl, rfl⟩)
  subst h2
  exact h1
theorem a3I {ns : List api_Node} {r : Nat -> Int} {k : Nat} (hk : k < ns.length) (hr : r k = 2) (hl : ns.length <= 1000) :
    vz ((mk ns r, ()), (k : Int), ()) = some ((mk ns (fun j => if j = k then 1 else r j), ()), 0, ()) := by
  have hk' : k < (mk ns r).length := by rw [uq]; exact hk
  simp only [vz, ak5 hk', uo, Bool.not_true, cond_false, awN (show (mk ns r).length <= 100000 by rw [uq]; omega), a3H hk hr]
end D
/- Plain: the pairs of a table in a span. -/
open Go Go.X
namespace D
def a0V (s : aa) (k : List UInt8) : Bool := !(Op.bytesLess k s.1) && (decide (s.2.1 = []) || Op.bytesLess k s.2.1)
theorem a3b (s : aa) (k : List UInt8) : acf (s, k, ()) = some (a0V s k, ()) := by
  simp only [acf, a0V]
  cases h1 : Op.bytesLess k s.1
  · cases h2 : decide (s.2.1 = [])
    · simp [h2]
    · simp [h2]
  · simp
def inS (s : aa) (t : List ae) : List ae := t.filter fun p => a0V s p.1
theorem a1D (s : aa) (t : List ae) : (inS s t).length <= t.length := List.length_filter_le _ _
theorem a3w (t : List ae) (s : aa) (hl : t.length <= 1000000) : aae (t, s, ()) = some (inS s t, ()) := by
  obtain ⟨z, h1, h2⟩ := eu (b := pw) (fun i (out : List ae) => (t, (i : Int), s, out, ())) t.length (fun i out => out = inS s (t.take i)) (fun z => z = .inl (inS s t, ())) (by omega)
    (fun i hi out ho => by
      left
      subst ho
      refine ⟨_, rfl, ?_⟩
      have e1 : (decide (((i : Nat) : Int) < ((List.length t) : Int))) = true := aK (by omega)
      have e2 : (decide ((0 : Int) <= (i : Int))) = true := aK (by omega)
      have e3 : IntKind.i64.wrap ((i : Int) + 1) = ((i + 1 : Nat) : Int) := by rw [cE (by omega)]; omega
      have e4 : ∀ p : ae, (decide ((List.length (inS s (t.take i)) + List.length ([p] : List (ae))) * 40 <= aw)) = true := fun p => aK (by
        have := a1D s (t.take i)
        rw [cD]
        simp at this ⊢
        omega)
      have e5 : inS s (t.take (i + 1)) = inS s (t.take i) ++ (bif a0V s t[i].1 then [t[i]] else []) := by
        rw [ao5 hi]
        unfold inS
        rw [List.filter_append]
        cases h : a0V s t[i].1 <;> simp [h]
      rw [e5]
      simp only [pw, e1, e2, cond_true, Bool.and_self, Int.toNat_natCast, fa hi, a3b]
      cases h : a0V s t[i].1
      · simp only [cond_false, e3, List.append_nil]
      · simp only [cond_true, e3, e4])
    (fun out ho => by
      subst ho
      have e1 : (decide (((t.length : Nat) : Int) < ((List.length t) : Int))) = false := bK (by omega)
      exact ⟨_, rfl, by simp only [pw, e1, cond_false, List.take_length]⟩) [] rfl
  subst h2
  have h1' : zj (t, 0, s, [], ()) = some (.inl (inS s t, ())) := h1
  simp only [aae, h1']
end D
/- Plain: tables made. -/
open Go Go.X
namespace D
def aku (p : ae) (t : List ae) : List ae := t.filter fun x => !decide (x.1 = p.1)
def ins (p : ae) : List ae -> List ae
  | [] => [p]
  | x :: t => bif Op.bytesLess x.1 p.1 then x :: ins p t else p :: aku p (x :: t)
abbrev a4B := (Bool × ae × List ae × Unit) ⊕ Unit
def a2y (p : ae) (s : Bool × List ae) (x : ae) : (Bool × List ae) ⊕ a4B :=
  let i := s.1 || !(Op.bytesLess x.1 p.1)
  let o := bif !s.1 && !(Op.bytesLess x.1 p.1) then s.2 ++ [p] else s.2
  .inl (i, bif !decide (x.1 = p.1) then o ++ [x] else o)
def a2x (p : ae) (s : Bool × List ae) : a4B := .inl (s.1, p, s.2, ())
theorem axb (p : ae) : ∀ (t out : List ae), atT (a2y p) (a2x p) t (true, out) = .inl (true, p, out ++ aku p t, ())
  | [], out => by simp [atT, aku, a2x]
  | x :: t, out => by
    simp only [atT, a2y, Bool.true_or, Bool.not_true, Bool.false_and, cond_false]
    rw [axb p t]
    by_cases h : x.1 = p.1 <;> simp [aku, h]
theorem atw (p : ae) : ∀ (t out : List ae), ∃ b o, atT (a2y p) (a2x p) t (false, out) = .inl (b, p, o, ()) /\ (bif b then o else o ++ [p]) = out ++ ins p t
  | [], out => ⟨false, out, rfl, rfl⟩
  | x :: t, out => by
    simp only [atT, a2y, Bool.false_or, Bool.not_false, Bool.true_and]
    cases h : Op.bytesLess x.1 p.1
    · simp only [Bool.not_false, cond_true]
      rw [axb]
      refine ⟨_, _, rfl, ?_⟩
      have e : ins p (x :: t) = p :: aku p (x :: t) := by simp only [ins, h, cond_false]
      rw [e]
      by_cases h2 : x.1 = p.1 <;> simp [aku, h2]
    · have h2 : x.1 ≠ p.1 := a2N h
      simp only [Bool.not_true, cond_false, h2, decide_false, Bool.not_false, cond_true]
      obtain ⟨b, o, e1, e2⟩ := atw p t (out ++ [x])
      refine ⟨b, o, e1, ?_⟩
      rw [e2]
      simp [ins, h]
theorem a1m (p : ae) (t : List ae) : (aku p t).length <= t.length := List.length_filter_le _ _
theorem ay8 (p : ae) : ∀ t, (ins p t).length <= t.length + 1
  | [] => by simp [ins]
  | x :: t => by
    have h1 := ay8 p t
    have h2 := a1m p (x :: t)
    cases h : Op.bytesLess x.1 p.1 <;> simp [ins, h] at h2 ⊢ <;> omega
theorem a3v (t : List ae) (p : ae) (hl : t.length < 1000000) : aht (t, p, ()) = some (ins p t, ()) := by
  have hloop : adc (t, false, (0 : Int), p, ([] : List ae), ()) = some (atT (a2y p) (a2x p) t (false, [])) := by
    have := a3m (b := uw) (fun I (s : Bool × List ae) => (t, s.1, (I : Int), p, s.2, ())) (a2y p) (a2x p) t (fun I s => s.2.length <= I + (if s.1 then 1 else 0)) (by omega) (fun I h s hs => by
        obtain ⟨i, out⟩ := s
        have ho : out.length <= I + 1 := by simp only at hs; split at hs <;> omega
        left
        refine ⟨_, rfl, ?_, ?_⟩
        · cases i <;> cases hb : Op.bytesLess t[I].1 p.1 <;> by_cases hk : t[I].1 = p.1 <;> simp [hb, hk] at hs ⊢ <;> omega
        · simp -implicitDefEqProofs (disch := omega) only [uw, xa, xb, aK, bK, cE, fa, cond_true, cond_false, Bool.and_self, Int.toNat_natCast, cD, List.length_cons, List.length_nil, List.length_append, Int.natCast_add, Int.cast_ofNat_Int]
          cases i <;> cases hb : Op.bytesLess t[I].1 p.1 <;> by_cases hk : t[I].1 = p.1 <;> simp -implicitDefEqProofs (disch := omega) [hb, hk, aK]) (fun s hs => by
        unfold uw
        simp -implicitDefEqProofs (disch := omega) only [aK, bK, cond_true, cond_false, a2x]) (false, []) (by simp)
    exact this
  obtain ⟨b, o, e1, e2⟩ := atw p t []
  unfold aht
  simp only [hloop, e1]
  simp only [List.nil_append] at e2
  have hlen := ay8 p t
  cases b
  · simp only [cond_false] at e2
    have : o.length + 1 <= t.length + 1 := by rw [<- e2] at hlen; simpa using hlen
    simp -implicitDefEqProofs (disch := omega) only [Bool.not_false, cond_true, aK, cD, List.length_cons, List.length_nil, e2]
  · simp only [cond_true] at e2
    simp only [Bool.not_true, cond_false, e2]
def asY (n : Int) : List UInt8 := ((qm (n, ())).map (·.1)).getD []
def azV (n : Nat) : Bool := match qm ((n : Int), ()) with
  | some (k, _) => decide (k.length <= 11) && decide (1 <= k.length)
  | none => false
theorem a2m : ∀ n : Fin 256, azV n.val = true := by decide +kernel
theorem a1d (n : Int) (h0 : 0 <= n) (h1 : n < 256) : qm (n, ()) = some (asY n, ()) /\ (asY n).length <= 11 /\ 1 <= (asY n).length := by
  obtain ⟨m, rfl⟩ := Int.eq_ofNat_of_zero_le h0
  have := a2m ⟨m, by omega⟩
  unfold azV at this
  unfold asY
  simp only at this
  cases h : qm ((m : Int), ()) with
  | none => simp [h] at this
  | some x =>
    obtain ⟨k, u⟩ := x
    simp [h] at this
    simp
    omega
def a4M (n : Int) : List UInt8 := List.getD [[], [118], [119, 120], [120, 121, 122]] (n % 4).toNat []
def aaQ (x : aZ) : ae := (asY x.1, a4M x.2.1, x.2.2.1 % 4, ())
def raw24 (x : aZ) : Prop := (0 <= x.1 /\ x.1 < 256) /\ (0 <= x.2.1 /\ x.2.1 < 256) /\ (0 <= x.2.2.1 /\ x.2.2.1 < 256)
theorem a2t (x : aZ) (h : raw24 x) : adb (x, ()) = some (aaQ x, ()) := by
  obtain ⟨a, b, c, u⟩ := x
  obtain ⟨h1, h2, h3⟩ := h
  simp only at h1 h2 h3
  obtain ⟨k1, k2, k3⟩ := a1d a h1.1 h1.2
  have e1 : Int.tmod b 4 = b % 4 := Int.tmod_eq_emod_of_nonneg h2.1
  have e2 : Int.tmod c 4 = c % 4 := Int.tmod_eq_emod_of_nonneg h3.1
  unfold adb
  simp -implicitDefEqProofs (disch := omega) only [k1, e1, e2, cE, aK, Bool.and_self, cond_true, List.length_cons, List.length_nil]
  rfl
def aey (l : List aZ) : List ae := l.foldl (fun t x => ins (aaQ x) t) []
theorem axi (l : List aZ) : (aey l).length <= l.length := by
  have key : ∀ (l : List aZ) (t : List ae), (l.foldl (fun t x => ins (aaQ x) t) t).length <= t.length + l.length := by
    intro l
    induction l with
    | nil => intro t; simp
    | cons x l ih =>
      intro t
      have h1 := ih (ins (aaQ x) t)
      have h2 := ay8 (aaQ x) t
      simp only [List.foldl_cons, List.length_cons]
      omega
  have := key l []
  simp only [List.length_nil, Nat.zero_add] at this
  exact this
theorem a2p (l : List aZ) (h : ∀ x ∈ l, raw24 x) (hl : l.length < 1000000000000000000) : zi (l, ()) = some (aey (l.take 40), ()) := by
  have hloop : vO (l, (0 : Int), ([] : List ae), ()) = some (.inl (aey (l.take 40), ())) := by
    obtain ⟨r, h1, h2⟩ := eu (b := nl) (fun I (t : List ae) => (l, (I : Int), t, ())) (min l.length 40) (fun I t => t = aey (l.take I)) (fun r => r = .inl (aey (l.take 40), ())) (by omega) (fun I hI t ht => by
        left
        have hI2 : I < l.length := by omega
        refine ⟨ins (aaQ l[I]) t, ?_, ?_⟩
        · show _ = aey _
          rw [List.take_add_one, List.getElem?_eq_getElem hI2, ht]
          simp only [aey, Option.toList_some, List.foldl_append, List.foldl_cons, List.foldl_nil]
        · have hlen : t.length <= 40 := by
            rw [ht]
            have := axi (l.take I)
            simp only [List.length_take] at this
            omega
          have hp := a2t l[I] (h _ (List.getElem_mem _))
          have hq := a3v t (aaQ l[I]) (by omega)
          simp -implicitDefEqProofs (disch := omega) only [nl, lL, aK, bK, cE, fa, cond_true, cond_false, Bool.and_self, Int.toNat_natCast, hp, hq, Int.natCast_add, Int.cast_ofNat_Int]) (fun t ht => by
        refine ⟨.inl (t, ()), ?_, ?_⟩
        · simp only [Sum.inl.injEq, Prod.mk.injEq, and_true]
          rw [ht]
          congr 1
          rcases Nat.le_total l.length 40 with h | h
          · rw [Nat.min_eq_left h, List.take_of_length_le h, List.take_length]
          · rw [Nat.min_eq_right h]
        · rcases Nat.lt_or_ge (min l.length 40) l.length with h | h
          · simp -implicitDefEqProofs (disch := omega) only [nl, lL, aK, bK, cond_true, cond_false]
          · simp -implicitDefEqProofs (disch := omega) only [nl, lL, aK, bK, cond_true, cond_false]) [] (by simp [aey])
    have h3 : vO (l, (0 : Int), [], ()) = some r := h1
    rw [h3, h2]
  unfold zi
  simp only [hloop]
end D
/- Plain: sums of nodes are told. -/
open Go Go.X
namespace D
def PlOK (k : List UInt8) : Prop := (sW (k, ())).isSome = true
structure MOK (m : ai) : Prop where
  kind : 1 <= m.1 /\ m.1 <= 6
  key : m.1 = 1 \/ m.1 = 2 -> PlOK m.2.1
  alike : m.1 = 4 \/ m.1 = 5 -> (ref10_Alike (m.2.2.2.2.1, m.2.2.2.2.2.1, ())).isSome = true
theorem a0N {p : ae} (h : PlOK p.1) : ∃ c, xG (p, ()) = some c := by
  obtain ⟨r, hr⟩ := Option.isSome_iff_exists.1 h
  simp only [xG, hr]
  cases (!decide ((r.2.1 : Int) = (0 : Int)))
  · cases decide ((r.1.2.1 : Int) = (1 : Int))
    · cases decide ((r.1.2.1 : Int) = (2 : Int))
      · cases decide ((r.1.2.1 : Int) = (3 : Int)) <;> exact ⟨_, rfl⟩
      · exact ⟨_, rfl⟩
    · exact ⟨_, rfl⟩
  · exact ⟨_, rfl⟩
theorem a2B (l : List ae) (h : ∀ p ∈ l, PlOK p.1) (hl : l.length <= 1000000) : ∃ c, aad (l, ()) = some c := by
  obtain ⟨z, h1, h2⟩ := eu (b := pu) (fun i (q : Int × Int) => (l, (i : Int), 0, 0, q.1, q.2, ())) l.length (fun _ _ => True) (fun z => ∃ x, z = .inl x) (by omega)
    (fun i hi q _ => by
      left
      obtain ⟨c, hc⟩ := a0N (h l[i] (List.getElem_mem hi))
      have e1 : (decide (((i : Nat) : Int) < ((List.length l) : Int))) = true := aK (by omega)
      have e2 : (decide ((0 : Int) <= (i : Int))) = true := aK (by omega)
      have e3 : IntKind.i64.wrap ((i : Int) + 1) = ((i + 1 : Nat) : Int) := by rw [cE (by omega)]; omega
      exact ⟨(IntKind.i64.wrap (q.1 + c.1.1), IntKind.i64.wrap (q.2 + c.1.2.1)), trivial, by simp only [pu, e1, e2, cond_true, Bool.and_self, Int.toNat_natCast, fa hi, hc, e3]⟩)
    (fun q _ => by
      have e1 : (decide (((l.length : Nat) : Int) < ((List.length l) : Int))) = false := bK (by omega)
      exact ⟨_, ⟨_, rfl⟩, by simp only [pu, e1, cond_false]; rfl⟩) (0, 0) trivial
  obtain ⟨x, rfl⟩ := h2
  have h1' : zh (l, 0, 0, 0, 0, 0, ()) = some (.inl x) := h1
  exact ⟨_, by simp only [aad, h1']; rfl⟩
theorem awP {k : List UInt8} (h : PlOK k) : ∃ c, rD (k, ()) = some c := by
  obtain ⟨r, hr⟩ := Option.isSome_iff_exists.1 h
  simp only [rD, hr]
  cases decide ((r.2.1 : Int) = (0 : Int)) <;> exact ⟨_, rfl⟩
theorem a0M (s : api_Sum) {m : ai} (h : MOK m) : ∃ c, xI (s, m, ()) = some c := by
  simp only [xI, qn, wv]
  by_cases h1 : m.1 = 1
  · obtain ⟨e, he⟩ := awP (h.key (.inl h1))
    simp only [aK h1, cond_true, he]
    cases e.1 <;> exact ⟨_, rfl⟩
  · by_cases h2 : m.1 = 2
    · obtain ⟨e, he⟩ := awP (h.key (.inr h2))
      simp only [bK h1, cond_false, aK h2, cond_true, he]
      cases e.1 <;> exact ⟨_, rfl⟩
    · by_cases h6 : m.1 = 6
      · simp only [bK h1, bK h2, cond_false, aK h6, cond_true]
        exact ⟨_, rfl⟩
      · by_cases h3 : m.1 = 3
        · simp only [bK h1, bK h2, bK h6, cond_false, aK h3, cond_true]
          exact ⟨_, rfl⟩
        · obtain ⟨a, ha⟩ := Option.isSome_iff_exists.1 (h.alike (by have := h.kind; omega))
          simp only [bK h1, bK h2, bK h6, bK h3, cond_false, ha]
          cases a.1
          · exact ⟨_, rfl⟩
          · cases decide ((m.1 : Int) = (5 : Int)) <;> exact ⟨_, rfl⟩
theorem a37 {n : api_Node} (h0 : n.2.2.1 = []) (h : ∀ p ∈ n.1, PlOK p.1) (hl : n.1.length <= 1000000) : ∃ s, sY (n, ()) = some s := by
  obtain ⟨c, hc⟩ := a2B n.1 h hl
  have e1 : (decide ((((List.length n.2.2.1) : Int) : Int) = (0 : Int))) = true := by rw [h0]; rfl
  simp only [sY, e1, cond_true, hc, agA]
  exact ⟨_, rfl⟩
theorem a27 {n : api_Node} (h0 : n.2.2.1 ≠ []) (hs : n.2.2.2.1.length <= 1000000) (h : ∀ m ∈ n.2.2.2.2.1, MOK m) (hl : n.2.2.2.2.1.length <= 1000000) : ∃ s, sY (n, ()) = some s := by
  have e0 : (decide ((((List.length n.2.2.1) : Int) : Int) = (0 : Int))) = false := bK (by
    have := List.length_pos_iff.2 h0
    omega)
  obtain ⟨z, h1, x, rfl⟩ := eu (b := uz) (fun i (q : api_Sum) => ((i : Int), n, 0, 0, 0, 0, q, ())) n.2.2.2.1.length (fun _ _ => True) (fun z => ∃ x : api_Sum, z = .inl (n, 0, 0, 0, 0, x, ())) (by omega)
    (fun i hi q _ => by
      left
      have e1 : (decide (((i : Nat) : Int) < ((List.length n.2.2.2.1) : Int))) = true := aK (by omega)
      have e2 : (decide ((0 : Int) <= (i : Int))) = true := aK (by omega)
      have e3 : IntKind.i64.wrap ((i : Int) + 1) = ((i + 1 : Nat) : Int) := by rw [cE (by omega)]; omega
      simp only [uz, e1, e2, cond_true, Bool.and_self, Int.toNat_natCast, fa hi, e3, ak4]
      exact ⟨_, trivial, rfl⟩)
    (fun q _ => by
      have e1 : (decide (((n.2.2.2.1.length : Nat) : Int) < ((List.length n.2.2.2.1) : Int))) = false := bK (by omega)
      exact ⟨_, ⟨q, rfl⟩, by simp only [uz, e1, cond_false]⟩) (((0 : Int), ((0 : Int), ())), (((0 : Int), ((0 : Int), ())), ())) trivial
  have h1' : adh (0, n, 0, 0, 0, 0, (((0 : Int), ((0 : Int), ())), (((0 : Int), ((0 : Int), ())), ())), ()) = some (.inl (n, 0, 0, 0, 0, x, ())) := h1
  obtain ⟨z, h2, y, rfl⟩ := eu (b := u0) (fun i (q : api_Sum) => ((i : Int), n, 0, 0, 0, 0, q, ())) n.2.2.2.2.1.length (fun _ _ => True) (fun z => ∃ x, z = .inl x) (by omega)
    (fun i hi q _ => by
      left
      obtain ⟨c, hc⟩ := a0M q (h n.2.2.2.2.1[i] (List.getElem_mem hi))
      have e1 : (decide (((i : Nat) : Int) < ((List.length n.2.2.2.2.1) : Int))) = true := aK (by omega)
      have e2 : (decide ((0 : Int) <= (i : Int))) = true := aK (by omega)
      have e3 : IntKind.i64.wrap ((i : Int) + 1) = ((i + 1 : Nat) : Int) := by rw [cE (by omega)]; omega
      exact ⟨c.1, trivial, by simp only [u0, e1, e2, cond_true, Bool.and_self, Int.toNat_natCast, fa hi, hc, e3]⟩)
    (fun q _ => by
      have e1 : (decide (((n.2.2.2.2.1.length : Nat) : Int) < ((List.length n.2.2.2.2.1) : Int))) = false := bK (by omega)
      exact ⟨_, ⟨_, rfl⟩, by simp only [u0, e1, cond_false]; rfl⟩) x trivial
  have h2' : adi (0, n, 0, 0, 0, 0, x, ()) = some (.inl y) := h2
  exact ⟨_, by simp only [sY, e0, cond_false, h1', h2']; rfl⟩
end D
/- Plain: the messages of the laws. -/
open Go Go.X
namespace D
def six : List (List UInt8) := [[97, 47], [98, 47], [97, 47, 98, 47], [99, 47], [100, 47], []]
def spanOK (s : aa) : Prop := s.2.1 = [] \/ Op.bytesLess s.1 s.2.1 = true
def bgn (k p : List UInt8) : Bool := decide (p.length <= k.length) && decide (k.take p.length = p)
theorem a1W (k p : List UInt8) : uv (k, p, ()) = some (bgn k p, ()) := by
  unfold uv bgn
  by_cases h : p.length <= k.length
  · have c1 : ((k.length : Int) >= (p.length : Int)) := by omega
    have c2 : ((0 : Int) <= (p.length : Int)) := by omega
    have c3 : ((p.length : Int) <= (k.length : Int)) := by omega
    simp only [c1, c2, c3, aK, cond_true, Bool.and_self, Int.toNat_natCast, List.drop_zero, h, Bool.true_and]
  · have c1 : ¬ ((k.length : Int) >= (p.length : Int)) := by omega
    simp only [c1, bK h, bK, cond_false, not_false_eq_true, Bool.false_and]
def a2w (p : List UInt8) : aa := (p, (if p = [] then [] else p.dropLast ++ [48]), ())
theorem a1N : ∀ p ∈ six, dD (p, ()) = some (a2w p, ()) /\ jl (p, ()) = some (a2w p, ()) /\ (p = [] \/ p = p.dropLast ++ [47]) := by
  have h : six.all (fun p => decide (dD (p, ()) = some (a2w p, ())) && (decide (jl (p, ()) = some (a2w p, ())) && (decide (p = []) || decide (p = p.dropLast ++ [47])))) = true := by kernel_rfl
  intro p hp
  have h2 := List.all_eq_true.1 h p hp
  simp only [Bool.and_eq_true, Bool.or_eq_true, decide_eq_true_eq] at h2
  exact h2
theorem a43 {p : List UInt8} (h : p = [] \/ p = p.dropLast ++ [47]) : spanOK (a2w p) := by
  unfold spanOK a2w
  by_cases hp : p = []
  · left; simp [hp]
  · right
    have h := h.resolve_left hp
    simp only [if_neg hp]
    have : ∀ q : List UInt8, Op.bytesLess (q ++ [47]) (q ++ [48]) = true := by
      intro q
      induction q with
      | nil => decide
      | cons a q ih => simp [Op.bytesLess, ih]
    conv => lhs; arg 1; rw [h]
    exact this _
def keys20 : List (List UInt8) := [[97, 47], [98, 47], [97, 47, 98, 47], [99, 47]].flatMap fun p => [[1], [2, 0, 0], [2, 0, 1], [2, 0, 2], [3, 120]].map fun s => p ++ s
theorem azW (n : Int) (h : 0 <= n /\ n < 256) : ∃ k ∈ keys20, xT (n, ()) = some (k, ()) := by
  obtain ⟨k, rfl⟩ := Int.eq_ofNat_of_zero_le h.1
  have hk : k < 256 := by omega
  have hc : (List.range 256).all (fun k => match xT ((k : Int), ()) with | some (p, ()) => keys20.contains p | none => false) = true := by kernel_rfl
  have := List.all_eq_true.1 hc k (List.mem_range.2 hk)
  cases hp : xT ((k : Int), ()) with
  | none => rw [hp] at this; cases this
  | some r =>
    obtain ⟨p, u⟩ := r
    rw [hp] at this
    exact ⟨p, by simpa using this, rfl⟩
theorem a1y (n : Int) (h : 0 <= n /\ n < 256) : ∃ v : List UInt8, v.length <= 10 /\ px (n, ()) = some (v, ()) := by
  obtain ⟨k, rfl⟩ := Int.eq_ofNat_of_zero_le h.1
  have hk : k < 256 := by omega
  have hc : (List.range 256).all (fun k => match px ((k : Int), ()) with | some (p, ()) => decide (p.length <= 10) | none => false) = true := by kernel_rfl
  have := List.all_eq_true.1 hc k (List.mem_range.2 hk)
  cases hp : px ((k : Int), ()) with
  | none => rw [hp] at this; cases this
  | some r =>
    obtain ⟨p, u⟩ := r
    rw [hp] at this
    exact ⟨p, by simpa using this, rfl⟩
def paths5 : List (List UInt8) := [[97, 47], [98, 47], [97, 47, 98, 47], [99, 47], [100, 47]]
theorem atq (n : Int) (h : 0 <= n /\ n < 256) : ∃ p ∈ paths5, li (n, ()) = some (p, ()) := by
  obtain ⟨k, rfl⟩ := Int.eq_ofNat_of_zero_le h.1
  have hk : k < 256 := by omega
  have hc : (List.range 256).all (fun k => match li ((k : Int), ()) with | some (p, ()) => paths5.contains p | none => false) = true := by kernel_rfl
  have := List.all_eq_true.1 hc k (List.mem_range.2 hk)
  cases hp : li ((k : Int), ()) with
  | none => rw [hp] at this; cases this
  | some r =>
    obtain ⟨p, u⟩ := r
    rw [hp] at this
    exact ⟨p, by simpa using this, rfl⟩
theorem axa : ∀ p ∈ paths5, p ∈ six := by
  intro p hp
  simp only [paths5, six, List.mem_cons, List.mem_nil_iff, or_false] at hp ⊢
  rcases hp with h | h | h | h | h <;> simp [h]
def aqK (a b : List UInt8) : List UInt8 := bif bgn a b || bgn b a then (bif decide (a = [100, 47]) then [99, 47] else [100, 47]) else b
theorem a3T : ∀ a ∈ paths5, ∀ b ∈ paths5, aqK a b ∈ paths5 /\ bgn a (aqK a b) = false /\ bgn (aqK a b) a = false := by
  have h : paths5.all (fun a => paths5.all fun b => paths5.contains (aqK a b) && (!bgn a (aqK a b) && !bgn (aqK a b) a)) = true := by kernel_rfl
  intro a ha b hb
  have := List.all_eq_true.1 (List.all_eq_true.1 h a ha) b hb
  simpa using this
abbrev R5 : Type := (Int) × (Int) × (Int) × (Int) × (Int) × (Int) × Unit
def xB (a : Int) (k v f t : List UInt8) (s : aa) (n : Int) : ai :=
  bif decide (a = 0) then (1, k, v, ([], [], ()), [], [], n, ())
  else bif decide (a = 1) then (2, k, [], ([], [], ()), [], [], 0, ())
  else bif decide (a = 2) then (3, [], [], s, [], [], 0, ())
  else bif decide (a = 3) then (4, [], [], ([], [], ()), f, t, 0, ())
  else bif decide (a = 4) then (5, [], [], ([], [], ()), f, t, 0, ())
  else (6, [], [], s, [], [], n, ())
theorem a4j (k f t v : List UInt8) (x : R5) (s : aa) (hv : px (x.2.2.1, ()) = some (v, ())) :
    fb (k, f, t, x, (0 : Int), [], [], [], [], [], [], (0 : Int), s, ()) = some (.inl (xB (Int.tmod x.1 6) k v f t s (IntKind.i64.wrap (Int.tmod x.2.2.2.2.2.1 8)))) := by
  unfold fb xB
  simp only [hv]
  cases decide (Int.tmod x.1 6 = 0) <;> cases decide (Int.tmod x.1 6 = 1) <;> cases decide (Int.tmod x.1 6 = 2) <;> cases decide (Int.tmod x.1 6 = 3) <;> cases decide (Int.tmod x.1 6 = 4) <;> rfl
theorem a4i (k f t v : List UInt8) (x : R5) (s : aa) (hv : px (x.2.2.1, ()) = some (v, ())) (hf : li (x.2.1, ()) = some (f, ())) (ht : li (x.2.2.2.1, ()) = some (t, ())) :
    bX (k, x, (0 : Int), [], [], [], [], [], [], (0 : Int), s, ()) = some (.inl (xB (Int.tmod x.1 6) k v f (aqK f t) s (IntKind.i64.wrap (Int.tmod x.2.2.2.2.2.1 8)))) := by
  unfold bX cV aqK
  simp only [hf, ht, a1W]
  cases bgn f t <;> cases bgn t f <;> cases decide (f = [100, 47]) <;> simp only [Bool.not_true, Bool.not_false, cond_true, cond_false, Bool.or_true, Bool.or_false, Bool.true_or, Bool.false_or, a4j k _ _ v x s hv]
structure MsgOK (m : ai) : Prop where
  kind : m.1 = 1 \/ m.1 = 2 \/ m.1 = 3 \/ m.1 = 4 \/ m.1 = 5 \/ m.1 = 6
  key : m.1 = 1 \/ m.1 = 2 -> m.2.1 ∈ keys20
  val : m.1 = 1 -> m.2.2.1.length <= 10
  span : m.1 = 3 \/ m.1 = 6 -> spanOK m.2.2.2.1
  from_ : m.1 = 4 \/ m.1 = 5 -> m.2.2.2.2.1 ∈ paths5
  to_ : m.1 = 4 \/ m.1 = 5 -> m.2.2.2.2.2.1 ∈ paths5
  apart : m.1 = 4 \/ m.1 = 5 -> bgn m.2.2.2.2.1 m.2.2.2.2.2.1 = false /\ bgn m.2.2.2.2.2.1 m.2.2.2.2.1 = false
theorem a1e (a : Int) (k v f t : List UInt8) (s : aa) (n : Int) (hk : k ∈ keys20) (hv : v.length <= 10) (hf : f ∈ paths5) (ht : t ∈ paths5) (hs : spanOK s) (h1 : bgn f t = false) (h2 : bgn t f = false) : MsgOK (xB a k v f t s n) := by
  unfold xB
  cases decide (a = 0) with
  | true => exact ⟨by simp, fun _ => hk, fun _ => hv, (by simp), (by simp), (by simp), (by simp)⟩
  | false =>
    cases decide (a = 1) with
    | true => exact ⟨by simp, fun _ => hk, (by simp), (by simp), (by simp), (by simp), (by simp)⟩
    | false =>
      cases decide (a = 2) with
      | true => exact ⟨by simp, (by simp), (by simp), fun _ => hs, (by simp), (by simp), (by simp)⟩
      | false =>
        cases decide (a = 3) with
        | true => exact ⟨by simp, (by simp), (by simp), (by simp), fun _ => hf, fun _ => ht, fun _ => ⟨h1, h2⟩⟩
        | false =>
          cases decide (a = 4) with
          | true => exact ⟨by simp, (by simp), (by simp), (by simp), fun _ => hf, fun _ => ht, fun _ => ⟨h1, h2⟩⟩
          | false => exact ⟨by simp, (by simp), (by simp), fun _ => hs, (by simp), (by simp), (by simp)⟩
def raw6 (x : R5) : Prop := (0 <= x.1 /\ x.1 < 256) /\ (0 <= x.2.1 /\ x.2.1 < 256) /\ (0 <= x.2.2.1 /\ x.2.2.1 < 256) /\ (0 <= x.2.2.2.1 /\ x.2.2.2.1 < 256)
theorem a41 (k : List UInt8) : Op.bytesLess k (k ++ [0]) = true := by
  induction k with
  | nil => rfl
  | cons a k ih => simp [Op.bytesLess, ih]
theorem a3n (x : R5) (h : raw6 x) : ∃ k v f t s, zk (x, ()) = some (xB (Int.tmod x.1 6) k v f (aqK f t) s (IntKind.i64.wrap (Int.tmod x.2.2.2.2.2.1 8)), ()) /\ MsgOK (xB (Int.tmod x.1 6) k v f (aqK f t) s (IntKind.i64.wrap (Int.tmod x.2.2.2.2.2.1 8))) /\ f ∈ paths5 /\ t ∈ paths5 := by
  obtain ⟨h1, h2, h3, h4⟩ := h
  obtain ⟨k, hk, ek⟩ := azW _ h2
  obtain ⟨l, hl, el⟩ := azW _ h4
  obtain ⟨v, hv, ev⟩ := a1y _ h3
  obtain ⟨f, hf, ef⟩ := atq _ h2
  obtain ⟨t, ht, et⟩ := atq _ h4
  obtain ⟨t1, t2, t3⟩ := a3T f hf t ht
  obtain ⟨_, ep, ep3⟩ := a1N f (axa f hf)
  have e1 : vw (k, ()) = some ((k, k ++ [0], ()), ()) := by
    unfold vw
    have hlen : keys20.all (fun k => decide (k.length < 100)) = true := by kernel_rfl
    have := of_decide_eq_true (List.all_eq_true.1 hlen k hk)
    have : k.length + ([0] : List UInt8).length <= aw := by rw [cD]; simp; omega
    simp only [this, aK, cond_true]
  have fin : ∀ s, spanOK s -> ∃ k' v' f' t' s', (match bX (k, x, (0 : Int), ([] : List UInt8), ([] : List UInt8), ([] : List UInt8), ([] : List UInt8), ([] : List UInt8), ([] : List UInt8), (0 : Int), s, ()) with
      | none => none
      | some (.inl z7) => some ((z7.1, (z7.2.1, (z7.2.2.1, (z7.2.2.2.1, (z7.2.2.2.2.1, (z7.2.2.2.2.2.1, (z7.2.2.2.2.2.2.1, ()))))))), ())
      | some (.inr z7) => none) = some (xB (Int.tmod x.1 6) k' v' f' (aqK f' t') s' (IntKind.i64.wrap (Int.tmod x.2.2.2.2.2.1 8)), ()) /\ MsgOK (xB (Int.tmod x.1 6) k' v' f' (aqK f' t') s' (IntKind.i64.wrap (Int.tmod x.2.2.2.2.2.1 8))) /\ f' ∈ paths5 /\ t' ∈ paths5 := by
    intro s hs
    refine ⟨k, v, f, t, s, ?_, a1e _ _ _ _ _ _ _ hk hv hf t1 hs t2 t3, hf, ht⟩
    rw [a4i k f t v x s ev ef et]
  unfold zk
  simp only [ek, el, ef, ep, e1]
  cases decide (Int.tmod x.2.2.2.2.1 4 = 0) with
  | true => exact fin _ (a43 ep3)
  | false =>
    simp only [cond_false]
    cases decide (Int.tmod x.2.2.2.2.1 16 = 1) with
    | true => exact fin _ (.inl rfl)
    | false =>
      simp only [cond_false]
      cases decide (Int.tmod x.2.2.2.2.1 16 = 5) with
      | true => exact fin _ (.inl rfl)
      | false =>
        simp only [cond_false]
        by_cases hkl : k = l
        · simp only [aK hkl, cond_true]
          exact fin _ (.inr (a41 k))
        · simp only [bK hkl, cond_false]
          apply fin
          right
          rcases anW k l with h | h | h
          · simp only [h, Bool.true_or, cond_true, Bool.not_true, cond_false]
          · exact absurd h hkl
          · simp only [a1X h, Bool.false_or, Bool.or_false, Bool.not_false, cond_true, cond_false]
            exact h
end D
/- Plain: the messages that fit a span. -/
open Go Go.X
namespace D
theorem a1p : ∀ k ∈ keys20, PlOK k := by
  have h : keys20.all (fun k => (sW (k, ())).isSome) = true := by kernel_rfl
  exact fun k hk => List.all_eq_true.1 h k hk
theorem azA : ∀ a ∈ paths5, ∀ b ∈ paths5, (ref10_Alike (a, b, ())).isSome = true := by
  have h : paths5.all (fun a => paths5.all fun b => (ref10_Alike (a, b, ())).isSome) = true := by kernel_rfl
  exact fun a ha b hb => List.all_eq_true.1 (List.all_eq_true.1 h a ha) b hb
theorem MsgOK.mok {m : ai} (h : MsgOK m) : MOK m :=
  ⟨by have := h.kind; omega, fun hk => a1p _ (h.key hk), fun hk => azA _ (h.from_ hk) _ (h.to_ hk)⟩
theorem a2o (l : List R5) (h : ∀ x ∈ l, raw6 x) (n : Nat) (hn : n <= 1000) (hl : l.length < 1000000000000000000) : ∃ ms, ade (l, (n : Int), ()) = some (ms, ()) /\ ms.length <= n /\ ∀ m ∈ ms, MsgOK m := by
  obtain ⟨z, h1, ms, rfl, h2, h3⟩ := eu (b := np) (fun i (out : List ai) => (l, (n : Int), (i : Int), out, ())) (min l.length n) (fun i out => out.length = i /\ ∀ m ∈ out, MsgOK m) (fun z => ∃ ms, z = .inl (ms, ()) /\ ms.length <= n /\ ∀ m ∈ ms, MsgOK m) (by omega)
    (fun i hi out ho => by
      left
      obtain ⟨ho1, ho2⟩ := ho
      have hi1 : i < l.length := by omega
      obtain ⟨mm, e, ok⟩ : ∃ mm, zk (l[i], ()) = some (mm, ()) /\ MsgOK mm := by
        obtain ⟨k, v, f, t, s, e, ok, -, -⟩ := a3n l[i] (h _ (List.getElem_mem hi1))
        exact ⟨_, e, ok⟩
      refine ⟨out ++ [mm], ⟨by rw [List.length_append, ho1]; rfl, fun m hm => ?_⟩, ?_⟩
      rotate_left
      · have e1 : (decide (((i : Nat) : Int) < ((List.length l) : Int))) = true := aK (by omega)
        have e2 : (decide ((0 : Int) <= (i : Int))) = true := aK (by omega)
        have e3 : IntKind.i64.wrap ((i : Int) + 1) = ((i + 1 : Nat) : Int) := by rw [cE (by omega)]; omega
        have e4 : (decide (((i : Nat) : Int) < (n : Int))) = true := aK (by omega)
        have e5 : ∀ x : ai, (decide ((List.length out + List.length ([x] : List (ai))) * 112 <= aw)) = true := fun x => aK (by rw [ho1, cD]; simp; omega)
        simp only [np, lM, e1, e2, e4, cond_true, Bool.and_self, Int.toNat_natCast, fa hi1, e, e5, e3]
      · rcases List.mem_append.1 hm with hm | hm
        · exact ho2 m hm
        · rw [List.mem_singleton.1 hm]; exact ok)
    (fun out ho => by
      obtain ⟨ho1, ho2⟩ := ho
      refine ⟨_, ⟨out, rfl, by omega, ho2⟩, ?_⟩
      rcases Nat.lt_or_ge (min l.length n) l.length with h1 | h1
      · have e1 : (decide (((min l.length n : Nat) : Int) < ((List.length l) : Int))) = true := aK (by omega)
        have e4 : (decide (((min l.length n : Nat) : Int) < (n : Int))) = false := bK (by omega)
        simp only [np, lM, e1, e4, cond_true, cond_false]
      · have e1 : (decide (((min l.length n : Nat) : Int) < ((List.length l) : Int))) = false := bK (by omega)
        simp only [np, lM, e1, cond_false]) [] ⟨rfl, by simp⟩
  have h1' : aaS (l, (n : Int), 0, [], ()) = some (.inl (ms, ())) := h1
  exact ⟨ms, by simp only [ade, h1'], h2, h3⟩
end D
/- Plain: spans of kids; messages that fit. -/
open Go Go.X
namespace D
theorem a0a (a b : List UInt8) : ∃ r, ze (a, b, ()) = some (r, ()) := by
  simp only [ze]
  cases (!decide (a = ([] : List UInt8)))
  · exact ⟨_, rfl⟩
  · cases (!decide (b = ([] : List UInt8))) <;> exact ⟨_, rfl⟩
theorem aoa (s : aa) : ∃ r, sX (s, ()) = some (r, ()) := by
  simp only [sX]
  cases (!decide (s.2.1 = ([] : List UInt8))) <;> exact ⟨_, rfl⟩
theorem a0e (a b c d : List UInt8) : ∃ r, vN (a, b, c, d, ()) = some (r, ()) := by
  obtain ⟨e, he⟩ := aoa (c, d, ())
  simp only [vN, he, ak2]
  cases e <;> exact ⟨_, rfl⟩
theorem a0f (a b : aa) : ∃ r, zf (a, b, ()) = some (r, ()) := by
  obtain ⟨l, hl⟩ := a0a b.2.1 a.2.1
  simp only [zf, hl]
  cases l <;> simp only [cond_true, cond_false] <;> exact a0e _ _ _ _
theorem a0O (a b : aa) : ∃ r, xF (a, b, ()) = some (r, ()) := by
  obtain ⟨e, he⟩ := aoa b
  obtain ⟨f, hf⟩ := aoa a
  obtain ⟨l, hl⟩ := a0a a.2.1 b.2.1
  simp only [xF, he, hf, hl]
  cases e <;> cases f <;> cases (Op.bytesLess a.1 b.1 || decide ((a.1 : List UInt8) = b.1)) <;> exact ⟨_, rfl⟩
theorem a2u (s : aa) (ps : List (List UInt8)) (hl : ps.length <= 100000) : ∃ l, aac (s, ps, ()) = some (l, ()) /\ l.length = ps.length + 1 := by
  obtain ⟨z, h1, q, rfl, hq⟩ := eu (b := pt) (fun i (q : List UInt8 × List aa) => (ps, q.1, (i : Int), s, q.2, ())) ps.length (fun i q => q.2.length = i) (fun z => ∃ q : List UInt8 × List aa, z = .inl (q.1, s, q.2, ()) /\ q.2.length = ps.length) (by omega)
    (fun i hi q hq => by
      left
      have e1 : (decide (((i : Nat) : Int) < ((List.length ps) : Int))) = true := aK (by omega)
      have e2 : (decide ((0 : Int) <= (i : Int))) = true := aK (by omega)
      have e3 : IntKind.i64.wrap ((i : Int) + 1) = ((i + 1 : Nat) : Int) := by rw [cE (by omega)]; omega
      obtain ⟨r, hr⟩ := a0f s (q.1, (ps[i], ()))
      have e5 : ∀ x : aa, (decide ((List.length q.2 + List.length ([x] : List (aa))) * 32 <= aw)) = true := fun x => aK (by rw [hq, cD]; simp; omega)
      exact ⟨(ps[i], q.2 ++ [r]), by simp [hq], by simp only [pt, e1, e2, cond_true, Bool.and_self, Int.toNat_natCast, fa hi, hr, e5, e3]⟩)
    (fun q hq => by
      have e1 : (decide (((ps.length : Nat) : Int) < ((List.length ps) : Int))) = false := bK (by omega)
      exact ⟨_, ⟨q, rfl, hq⟩, by simp only [pt, e1, cond_false]⟩) (([] : List UInt8), ([] : List aa)) rfl
  have h1' : zg (ps, [], 0, s, [], ()) = some (.inl (q.1, s, q.2, ())) := h1
  obtain ⟨r, hr⟩ := a0f s (q.1, (([] : List UInt8), ()))
  have e5 : ∀ x : aa, (decide ((List.length q.2 + List.length ([x] : List (aa))) * 32 <= aw)) = true := fun x => aK (by rw [hq, cD]; simp; omega)
  exact ⟨q.2 ++ [r], by simp only [aac, h1', hr, e5, cond_true], by simp [hq]⟩
theorem a26 (n : api_Node) (s : aa) (h0 : n.2.2.1 ≠ []) (hl : n.2.1.length <= 100000) : ∃ l, aag (n, s, ()) = some (l, ()) /\ l.length = n.2.1.length + 1 := by
  obtain ⟨l, h1, h2⟩ := a2u s n.2.1 hl
  have e0 : (decide ((((List.length n.2.2.1) : Int) : Int) = (0 : Int))) = false := bK (by
    have := List.length_pos_iff.2 h0
    omega)
  exact ⟨l, by simp only [aag, e0, cond_false, h1], h2⟩
theorem za {p : List UInt8} (h : p ∈ paths5) : ∃ r, jl (p, ()) = some (r, ()) := ⟨_, (a1N p (axa p h)).2.1⟩
theorem a1H {k : List UInt8} (h : k ∈ keys20) : ∃ r, vw (k, ()) = some (r, ()) := by
  have hlen : keys20.all (fun k => decide (k.length < 100)) = true := by kernel_rfl
  have := of_decide_eq_true (List.all_eq_true.1 hlen k h)
  have : k.length + ([0] : List UInt8).length <= aw := by rw [cD]; simp; omega
  simp only [vw, this, aK, cond_true]
  exact ⟨_, rfl⟩
theorem a2z {m : ai} (h : MsgOK m) : ∃ l, aaf (m, ()) = some (l, ()) /\ l.length <= 2 := by
  simp only [aaf, zl]
  by_cases h4 : m.1 = 4
  · obtain ⟨r, hr⟩ := za (h.from_ (.inl h4))
    simp only [aK h4, cond_true, hr]
    exact ⟨_, rfl, by simp⟩
  · by_cases h5 : m.1 = 5
    · obtain ⟨r, hr⟩ := za (h.from_ (.inr h5))
      simp only [bK h4, aK h5, cond_true, cond_false, hr]
      exact ⟨_, rfl, by simp⟩
    · simp only [bK h4, bK h5, cond_false]
      cases decide (m.1 = 6) <;> exact ⟨_, rfl, by simp⟩
theorem a1z {m : ai} (h : MsgOK m) : ∃ l, xH (m, ()) = some (l, ()) /\ l.length <= 2 := by
  simp only [xH, xc]
  by_cases h1 : m.1 = 1
  · obtain ⟨r, hr⟩ := a1H (h.key (.inl h1))
    simp only [aK h1, cond_true, hr]
    exact ⟨_, rfl, by simp⟩
  · by_cases h2 : m.1 = 2
    · obtain ⟨r, hr⟩ := a1H (h.key (.inr h2))
      simp only [bK h1, aK h2, cond_true, cond_false, hr]
      exact ⟨_, rfl, by simp⟩
    · by_cases h4 : m.1 = 4
      · obtain ⟨r, hr⟩ := za (h.from_ (.inl h4))
        obtain ⟨t, ht⟩ := za (h.to_ (.inl h4))
        simp only [bK h1, bK h2, aK h4, cond_true, cond_false, hr, ht]
        exact ⟨_, rfl, by simp⟩
      · by_cases h5 : m.1 = 5
        · obtain ⟨t, ht⟩ := za (h.to_ (.inr h5))
          simp only [bK h1, bK h2, bK h4, aK h5, cond_true, cond_false, ht]
          exact ⟨_, rfl, by simp⟩
        · simp only [bK h1, bK h2, bK h4, bK h5, cond_false]
          exact ⟨_, rfl, by simp⟩
theorem a0b (s : aa) (l : List aa) (hl : l.length <= 1000) : ∃ r, aaT (0, s, l, ()) = some r := by
  obtain ⟨z, h1, -⟩ := eu (b := rC) (fun i (_ : Unit) => ((i : Int), s, l, ())) l.length (fun _ _ => True) (fun _ => True) (by omega)
    (fun i hi _ _ => by
      have e1 : (decide (((i : Nat) : Int) < ((List.length l) : Int))) = true := aK (by omega)
      have e2 : (decide ((0 : Int) <= (i : Int))) = true := aK (by omega)
      have e3 : IntKind.i64.wrap ((i : Int) + 1) = ((i + 1 : Nat) : Int) := by rw [cE (by omega)]; omega
      obtain ⟨r, hr⟩ := a0O s l[i]
      simp only [rC, e1, e2, cond_true, Bool.and_self, Int.toNat_natCast, fa hi, hr, e3]
      cases r
      · exact .inr ⟨_, trivial, rfl⟩
      · exact .inl ⟨(), trivial, rfl⟩)
    (fun _ _ => by
      have e1 : (decide (((l.length : Nat) : Int) < ((List.length l) : Int))) = false := bK (by omega)
      exact ⟨_, trivial, by simp only [rC, e1, cond_false]; rfl⟩) () trivial
  exact ⟨z, h1⟩
theorem a3l {m : ai} (h : MsgOK m) (s : aa) : ∃ r, adf (m, s, ()) = some (r, ()) := by
  obtain ⟨a, ha, ha2⟩ := a2z h
  obtain ⟨b, hb, hb2⟩ := a1z h
  obtain ⟨z, hz⟩ := a0b s (([] ++ a) ++ b) (by simp; omega)
  have e1 : (decide ((List.length ([] : List (aa)) + List.length a) * 32 <= aw)) = true := aK (by rw [cD]; simp; omega)
  have e2 : (decide ((List.length (([] : List (aa)) ++ a) + List.length b) * 32 <= aw)) = true := aK (by rw [cD]; simp; omega)
  simp only [adf, ha, hb, e1, e2, cond_true, hz]
  cases z <;> exact ⟨_, rfl⟩
theorem x8 (l : List R5) (h : ∀ x ∈ l, raw6 x) (s : aa) (hl : l.length < 1000000000000000000) : ∃ ms, lj (l, s, (5 : Int), ()) = some (ms, ()) /\ ms.length <= 5 /\ ∀ m ∈ ms, MsgOK m := by
  obtain ⟨all, h1, h2, h3⟩ := a2o l h 15 (by omega) hl
  obtain ⟨z, g1, ms, rfl, g2, g3⟩ := eu (b := gK) (fun i (out : List ai) => ((5 : Int), (i : Int), s, out, all, ())) all.length (fun i out => out.length <= 5 /\ ∀ m ∈ out, MsgOK m) (fun z => ∃ ms, z = .inl (ms, ()) /\ ms.length <= 5 /\ ∀ m ∈ ms, MsgOK m) (by omega)
    (fun i hi out ho => by
      obtain ⟨ho1, ho2⟩ := ho
      have e1 : (decide (((i : Nat) : Int) < ((List.length all) : Int))) = true := aK (by omega)
      have e2 : (decide ((0 : Int) <= (i : Int))) = true := aK (by omega)
      have e3 : IntKind.i64.wrap ((i : Int) + 1) = ((i + 1 : Nat) : Int) := by rw [cE (by omega)]; omega
      by_cases h5 : out.length < 5
      · left
        have e4 : (decide ((((List.length out) : Int) : Int) < (5 : Int))) = true := aK (by omega)
        obtain ⟨r, hr⟩ := a3l (h3 all[i] (List.getElem_mem hi)) s
        have e5 : ∀ x : ai, (decide ((List.length out + List.length ([x] : List (ai))) * 112 <= aw)) = true := fun x => aK (by rw [cD]; simp; omega)
        cases r with
        | false => exact ⟨out, ⟨ho1, ho2⟩, by simp only [gK, fk, e1, e2, e4, cond_true, cond_false, Bool.and_self, Int.toNat_natCast, fa hi, hr, e3]⟩
        | true =>
          refine ⟨out ++ [all[i]], ⟨by simp; omega, fun m hm => ?_⟩, by simp only [gK, fk, e1, e2, e4, cond_true, cond_false, Bool.and_self, Int.toNat_natCast, fa hi, hr, e5, e3]⟩
          rcases List.mem_append.1 hm with hm | hm
          · exact ho2 m hm
          · rw [List.mem_singleton.1 hm]; exact h3 _ (List.getElem_mem hi)
      · right
        have e4 : (decide ((((List.length out) : Int) : Int) < (5 : Int))) = false := bK (by omega)
        exact ⟨_, ⟨out, rfl, ho1, ho2⟩, by simp only [gK, fk, e1, e4, cond_true, cond_false]⟩)
    (fun out ho => by
      have e1 : (decide (((all.length : Nat) : Int) < ((List.length all) : Int))) = false := bK (by omega)
      exact ⟨_, ⟨out, rfl, ho.1, ho.2⟩, by simp only [gK, fk, e1, cond_false]⟩) [] ⟨by simp, by simp⟩
  have g1' : v8 (5, 0, s, [], all, ()) = some (.inl (ms, ())) := g1
  have e6 : IntKind.i64.wrap ((3 : Int) * 5) = ((15 : Nat) : Int) := by rw [cE (by omega)]; rfl
  exact ⟨ms, by simp only [lj, e6, h1, g1'], g2, g3⟩
end D
/- Plain: trees made: the pivots of a node; its kids. -/
open Go Go.X
namespace D
abbrev BR : Type := ((aj) × (List (ae)) × (aa) × (List (List (List UInt8))) × (aF) × Unit) -> Option ((aO) × Unit)
theorem a2R (r : BR) (t : List ae) (pv : List (List (List UInt8))) (p : aj) (s : aa) (x : aF) (h0 : 0 < pv.length) (hl : (List.getD pv 0 []).length <= 100) :
    ∃ mine, uD r (t, pv, 0, p, s, x, [], 0, [], ()) = some (.inl (t, pv, p, s, x, [], 0, mine, ())) /\ mine.length <= (List.getD pv 0 []).length := by
  obtain ⟨P, hP⟩ : ∃ P, List.getD pv 0 [] = P := ⟨_, rfl⟩
  rw [hP] at hl ⊢
  obtain ⟨z, h1, mine, rfl, h2⟩ := eu (b := lO r) (fun i (mine : List (List UInt8)) => (t, pv, (i : Int), p, s, x, [], 0, mine, ())) P.length (fun i mine => mine.length <= i) (fun z => ∃ mine : List (List UInt8), z = .inl (t, pv, p, s, x, [], 0, mine, ()) /\ mine.length <= P.length) (by omega)
    (fun i hi mine hm => by
      left
      have e0 : (decide (((0 : Int) : Int) < (List.length pv : Int))) = true := aK (by omega)
      have e1 : (decide (((i : Nat) : Int) < ((List.length P) : Int))) = true := aK (by omega)
      have e2 : (decide ((0 : Int) <= (i : Int))) = true := aK (by omega)
      have e3 : IntKind.i64.wrap ((i : Int) + 1) = ((i + 1 : Nat) : Int) := by rw [cE (by omega)]; omega
      have e5 : ∀ k : List UInt8, (decide ((List.length mine + List.length ([k] : List (List UInt8))) * 16 <= aw)) = true := fun k => aK (by rw [cD]; simp; omega)
      simp only [lO, uA, e0, e1, e2, hP, cond_true, Bool.and_self, Int.toNat_natCast, fa hi, a3b, e5, e3]
      cases (!(Op.bytesLess P[i] s.1 || decide ((P[i] : List UInt8) = s.1)))
      · exact ⟨mine, by omega, by simp only [cond_false]⟩
      · cases a0V s P[i]
        · exact ⟨mine, by omega, by simp only [cond_true, cond_false]⟩
        · exact ⟨mine ++ [P[i]], by simp; omega, by simp only [cond_true]⟩)
    (fun mine hm => by
      have e0 : (decide (((0 : Int) : Int) < (List.length pv : Int))) = true := aK (by omega)
      have e1 : (decide (((P.length : Nat) : Int) < ((List.length P) : Int))) = false := bK (by omega)
      exact ⟨_, ⟨mine, rfl, hm⟩, by simp only [lO, e0, e1, hP, cond_true, cond_false]⟩) [] (by simp)
  exact ⟨mine, h1, h2⟩
def TreeOK (ns : List api_Node) : Nat -> Nat -> Prop
  | 0, _ => False
  | h + 1, i => ∃ n, ns[i]? = some n /\
      ((h = 0 /\ n.2.2.1 = [] /\ n.1.length <= 1000 /\ ∀ p ∈ n.1, PlOK p.1) \/
       (0 < h /\ ∃ ks : List Nat, n.2.2.1 = kR ks /\ ks.length = n.2.1.length + 1 /\ n.2.1.length <= 100 /\ n.2.2.2.1.length <= 1000 /\ n.2.2.2.2.1.length <= 5 /\ (∀ m ∈ n.2.2.2.2.1, MsgOK m) /\ ∀ k ∈ ks, TreeOK ns h k))
theorem TreeOK.app {ns : List api_Node} (l : List api_Node) : ∀ {h i : Nat}, TreeOK ns h i -> TreeOK (ns ++ l) h i
  | 0, _, h => h.elim
  | h + 1, i, ⟨n, hn, hh⟩ => by
    refine ⟨n, ?_, hh.imp id fun ⟨h0, ks, a, b, c, d, e, f, g⟩ => ⟨h0, ks, a, b, c, d, e, f, fun k hk => TreeOK.app l (g k hk)⟩⟩
    rw [List.getElem?_append_left (List.getElem?_eq_some_iff.1 hn).1]
    exact hn
theorem TreeOK.lt {ns : List api_Node} {h i : Nat} (t : TreeOK ns h i) : i < ns.length := by
  cases h with
  | zero => exact t.elim
  | succ h =>
    obtain ⟨n, hn, -⟩ := t
    exact (List.getElem?_eq_some_iff.1 hn).1
theorem TreeOK.sum {ns : List api_Node} {h i : Nat} (t : TreeOK ns h i) (n : api_Node) (hn : ns[i]? = some n) : ∃ s, sY (n, ()) = some s := by
  cases h with
  | zero => exact t.elim
  | succ h =>
    obtain ⟨m, hm, hh⟩ := t
    obtain rfl := Option.some.inj (hm.symm.trans hn)
    rcases hh with ⟨-, h0, h1, h2⟩ | ⟨-, ks, a, b, c, d, e, f, g⟩
    · exact a37 h0 h2 (by omega)
    · refine a27 ?_ (by omega) (fun m hm => (f m hm).mok) (by omega)
      intro h
      rw [a] at h
      have := congrArg List.length h
      rw [gG, List.length_nil] at this
      omega
def asy (r : BR) (t : List ae) (x : aF) (d c : Nat) : Prop :=
  ∀ (ns : List api_Node) (s : aa) (pv : List (List (List UInt8))), pv.length = d -> (∀ q ∈ pv, q.length <= 5) -> ns.length + c <= 900 ->
    ∃ l i, r ((mk ns (fun _ => 1), ()), t, s, pv, x, ()) = some (((mk (ns ++ l) (fun _ => 1), ()), ((i : Nat) : Int), ()), ()) /\ l.length <= c /\ ns.length <= i /\ TreeOK (ns ++ l) (d + 1) i
structure BS where
  l : List api_Node
  ks : List Nat
  sums : List api_Sum
theorem a2S (r : BR) (t : List ae) (x : aF) (d c : Nat) (hr : asy r t x d c) (ns : List api_Node) (s : aa) (pv : List (List (List UInt8))) (hpv : pv.length = d + 1) (hq : ∀ q ∈ pv, q.length <= 5) (parts : List aa) (mine : List (List UInt8)) (hp : parts.length <= 6) (hn : ns.length + parts.length * c <= 900) :
    ∃ q : BS, uE r (t, pv, 0, (mk ns (fun _ => 1), ()), s, x, [], 0, [], [], parts, mine, [], [], ()) = some (.inl ((mk (ns ++ q.l) (fun _ => 1), ()), s, x, [], 0, [], [], mine, kR q.ks, q.sums, ())) /\
      q.l.length <= parts.length * c /\ q.ks.length = parts.length /\ q.sums.length = parts.length /\ q.ks.Nodup /\ (∀ k ∈ q.ks, TreeOK (ns ++ q.l) (d + 1) k) := by
  obtain ⟨z, h1, q, rfl, h2⟩ := eu (b := kc r) (fun i (q : BS) => (t, pv, (i : Int), (mk (ns ++ q.l) (fun _ => 1), ()), s, x, [], 0, [], [], parts, mine, kR q.ks, q.sums, ())) parts.length
    (fun i q => q.l.length <= i * c /\ q.ks.length = i /\ q.sums.length = i /\ q.ks.Nodup /\ ∀ k ∈ q.ks, TreeOK (ns ++ q.l) (d + 1) k)
    (fun z => ∃ q : BS, z = .inl ((mk (ns ++ q.l) (fun _ => 1), ()), s, x, [], 0, [], [], mine, kR q.ks, q.sums, ()) /\ q.l.length <= parts.length * c /\ q.ks.length = parts.length /\ q.sums.length = parts.length /\ q.ks.Nodup /\ (∀ k ∈ q.ks, TreeOK (ns ++ q.l) (d + 1) k)) (by omega)
    (fun i hi q hq2 => by
      left
      obtain ⟨a1, a2, a3, a4, a5⟩ := hq2
      have hmul : i * c + c <= parts.length * c := by
        have : (i + 1) * c <= parts.length * c := Nat.mul_le_mul_right c hi
        rw [Nat.add_mul] at this
        omega
      have e1 : (decide (((i : Nat) : Int) < ((List.length parts) : Int))) = true := aK (by omega)
      have e2 : (decide ((0 : Int) <= (i : Int))) = true := aK (by omega)
      have e3 : IntKind.i64.wrap ((i : Int) + 1) = ((i + 1 : Nat) : Int) := by rw [cE (by omega)]; omega
      have e4 : (decide (((1 : Int) : Int) <= (List.length pv : Int)) && decide (((List.length pv : Int) : Int) <= (List.length pv : Int))) = true := by
        rw [aK (by omega), aK (Int.le_refl _)]; rfl
      have e5 : List.drop (Int.toNat (1 : Int)) (List.take (List.length pv) pv) = pv.tail := by
        rw [List.take_length]
        show List.drop 1 pv = pv.tail
        simp
      obtain ⟨l, j, b1, b2, b3, b4⟩ := hr (ns ++ q.l) parts[i] pv.tail (by simp [hpv]) (fun q hq' => hq q (List.mem_of_mem_tail hq')) (by simp; omega)
      have hj := b4.lt
      have e6 := akq (r := fun _ => 1) hj
      obtain ⟨sm, hsm⟩ := b4.sum _ (List.getElem?_eq_getElem hj)
      have e7 : (decide ((List.length (kR q.ks) + List.length ([((j : Nat) : Int)] : List (Int))) * 8 <= aw)) = true := aK (by rw [gG, cD]; simp; omega)
      have e8 : ∀ y : api_Sum, (decide ((List.length q.sums + List.length ([y] : List (api_Sum))) * 32 <= aw)) = true := fun y => aK (by rw [cD]; simp; omega)
      have e9 : kR q.ks ++ [((j : Nat) : Int)] = kR (q.ks ++ [j]) := by simp [kR]
      refine ⟨⟨q.l ++ l, q.ks ++ [j], q.sums ++ [sm.1]⟩, ⟨by simp only [List.length_append]; rw [Nat.add_mul]; omega, by simp [a2], by simp [a3], ?_, ?_⟩, ?_⟩
      · rw [List.nodup_append]
        refine ⟨a4, by simp, ?_⟩
        intro a ha b hb
        have := (a5 a ha).lt
        simp only [List.mem_singleton] at hb
        omega
      · intro k hk
        rw [<- List.append_assoc]
        rcases List.mem_append.1 hk with hk | hk
        · exact (a5 k hk).app l
        · rw [List.mem_singleton.1 hk]; exact b4
      · have e10 : sY ((ns ++ q.l ++ l)[j], ()) = some (sm.1, ()) := hsm
        show kc r _ = some (Sum.inl (t, pv, ((i + 1 : Nat) : Int), (mk (ns ++ (q.l ++ l)) (fun _ => 1), ()), s, x, [], 0, [], [], parts, mine, kR (q.ks ++ [j]), q.sums ++ [sm.1], ()))
        rw [show ns ++ (q.l ++ l) = ns ++ q.l ++ l from (List.append_assoc _ _ _).symm]
        simp only [kc, e1, e2, e4, e5, cond_true, Bool.and_self, Int.toNat_natCast, fa hi, b1, e6, e7, e10, e8, e3, e9])
    (fun q hq2 => by
      have e1 : (decide (((parts.length : Nat) : Int) < ((List.length parts) : Int))) = false := bK (by omega)
      exact ⟨_, ⟨q, rfl, hq2⟩, by simp only [kc, e1, cond_false]⟩) ⟨[], [], []⟩ ⟨by simp, rfl, rfl, List.nodup_nil, by simp⟩
  refine ⟨q, ?_, h2⟩
  have h1' := h1
  simp only [List.append_nil] at h1'
  exact h1'
end D
/- Plain: trees made. -/
open Go Go.X
namespace D
theorem a2T (r : BR) (N : List api_Node) (ks : List Nat) (hlt : ∀ k ∈ ks, k < N.length) (hn : ks.Nodup) (hl : N.length <= 1000) (hkl : ks.length <= 1000) (a : eA) (piv : List (List UInt8)) (sums : List api_Sum) (buf : List ai) :
    uF r (0, [], 0, [], a, (mk N (fun j => if j ∈ ks then 2 else 1), ()), piv, kR ks, sums, buf, ()) = some (.inl ([], 0, a, (mk N (fun _ => 1), ()), ())) := by
  obtain ⟨z, h1, h2⟩ := eu (b := lP r) (fun i (p : List ak) => ((i : Int), [], 0, [], a, (p, ()), piv, kR ks, sums, buf, ())) ks.length (fun i p => p = mk N (fun j => if j ∈ ks.drop i then 2 else 1)) (fun z => z = .inl ([], 0, a, (mk N (fun _ => 1), ()), ())) (by omega)
    (fun i hi p hp => by
      left
      subst hp
      refine ⟨_, rfl, ?_⟩
      have hik : ks[i] < N.length := hlt _ (List.getElem_mem hi)
      have e1 : (decide (((i : Nat) : Int) < ((List.length (kR ks)) : Int))) = true := aK (by rw [gG]; omega)
      have e2 : (decide ((0 : Int) <= (i : Int))) = true := aK (by omega)
      have e3 : IntKind.i64.wrap ((i : Int) + 1) = ((i + 1 : Nat) : Int) := by rw [cE (by omega)]; omega
      have hd : ks.drop i = ks[i] :: ks.drop (i + 1) := List.drop_eq_getElem_cons hi
      have hnd : (ks[i] :: ks.drop (i + 1)).Nodup := by rw [<- hd]; exact hn.sublist (List.drop_sublist _ _)
      have hnot := (List.nodup_cons.1 hnd).1
      have e4 := a3I (ns := N) (r := fun j => if j ∈ ks.drop i then 2 else 1) hik (if_pos (by rw [hd]; exact List.mem_cons_self)) hl
      have e5 : mk N (fun j => if j = ks[i] then 1 else if j ∈ ks.drop i then 2 else 1) = mk N (fun j => if j ∈ ks.drop (i + 1) then 2 else 1) := afY fun j _ => by
        by_cases hj : j = ks[i]
        · rw [if_pos hj, if_neg (by rw [hj]; exact hnot)]
        · rw [if_neg hj]
          have : j ∈ ks.drop i ↔ j ∈ ks.drop (i + 1) := by rw [hd, List.mem_cons]; exact ⟨fun h => h.resolve_left hj, .inr⟩
          by_cases h2 : j ∈ ks.drop i
          · rw [if_pos h2, if_pos (this.1 h2)]
          · rw [if_neg h2, if_neg (fun h => h2 (this.2 h))]
      rw [e5] at e4
      simp only [lP, e1, e2, cond_true, Bool.and_self, Int.toNat_natCast, vt hi, e4, e3])
    (fun p hp => by
      subst hp
      have e1 : (decide (((ks.length : Nat) : Int) < ((List.length (kR ks)) : Int))) = false := bK (by rw [gG]; omega)
      have e5 : mk N (fun j => if j ∈ ks.drop ks.length then 2 else 1) = mk N (fun _ => 1) := afY fun j _ => by rw [List.drop_length]; simp
      exact ⟨_, rfl, by simp only [lP, e1, cond_false, e5]⟩) (mk N (fun j => if j ∈ ks then 2 else 1)) (by simp)
  subst h2
  exact h1
theorem a2Q (r : BR) (N : List api_Node) (ks : List Nat) (hlt : ∀ k ∈ ks, k < N.length) (hn : ks.Nodup) (hl : N.length <= 899) (hkl : ks.length <= 1000) (piv : List (List UInt8)) (sums : List api_Sum) (buf : List ai) :
    kd r ((mk N (fun _ => 1), ()), [], 0, [], piv, kR ks, sums, buf, ()) = some (((mk (N ++ [([], piv, kR ks, sums, buf, ())]) (fun _ => 1), ()), ((N.length : Nat) : Int), ()), ()) := by
  have e1 := a2K (ns := N) (n := ([], piv, kR ks, sums, buf, ())) (ks := ks) rfl hlt hn hkl (by omega)
  have e2 := a2T r (N ++ [([], piv, kR ks, sums, buf, ())]) ks (fun k hk => by have := hlt k hk; simp; omega) hn (by simp; omega) hkl ((mk (N ++ [([], piv, kR ks, sums, buf, ())]) (fun j => if j ∈ ks then 2 else 1), ()), ((N.length : Int), (0, ()))) piv sums buf
  simp only [kd, e1, e2]
structure XOK (x : aF) : Prop where
  b0 : (∀ y ∈ x.2.1.1, raw6 y) /\ x.2.1.1.length < 1000000000000000000
  b1 : (∀ y ∈ x.2.1.2.1, raw6 y) /\ x.2.1.2.1.length < 1000000000000000000
  b2 : (∀ y ∈ x.2.1.2.2.1, raw6 y) /\ x.2.1.2.2.1.length < 1000000000000000000
  b3 : (∀ y ∈ x.2.1.2.2.2.1, raw6 y) /\ x.2.1.2.2.2.1.length < 1000000000000000000
theorem a2P (r : BR) (x : aF) (hx : XOK x) (w : Nat) (hw : w < 4) (p : aj) (s : aa) (piv : List (List UInt8)) (kids : List Int) (sums : List api_Sum) :
    ∃ buf : List ai, buf.length <= 5 /\ (∀ m ∈ buf, MsgOK m) /\ py r ((w : Int), p, s, x, [], 0, [], [], piv, kids, sums, ()) = kd r (p, [], 0, [], piv, kids, sums, buf, ()) := by
  obtain ⟨f0, a0, a1, a2⟩ := x8 _ hx.b0.1 s hx.b0.2
  obtain ⟨f1, c0, c1, c2⟩ := x8 _ hx.b1.1 s hx.b1.2
  obtain ⟨f2, d0, d1, d2⟩ := x8 _ hx.b2.1 s hx.b2.2
  obtain ⟨f3, g0, g1, g2⟩ := x8 _ hx.b3.1 s hx.b3.2
  have e1 : (decide ((0 : Int) <= (w : Int))) = true := aK (by omega)
  have e2 : (decide ((w : Int) < 4)) = true := aK (by omega)
  simp only [py, e1, e2, cond_true, Bool.and_self, Int.toNat_natCast]
  match w, hw with
  | 0, _ => exact ⟨f0, a1, a2, by simp only [a0]; rfl⟩
  | 1, _ => exact ⟨f1, c1, c2, by simp only [c0]; rfl⟩
  | 2, _ => exact ⟨f2, d1, d2, by simp only [d0]; rfl⟩
  | 3, _ => exact ⟨f3, g1, g2, by simp only [g0]; rfl⟩
end D
/- Plain: trees made, to their root. -/
open Go Go.X
namespace D
structure TOK (t : List ae) : Prop where
  len : t.length <= 1000
  key : ∀ p ∈ t, PlOK p.1
theorem azF (r : BR) (t : List ae) (x : aF) (ht : TOK t) : asy (gJ r) t x 0 1 := by
  intro ns s pv hpv hq hn
  have hpv' : pv = [] := List.eq_nil_of_length_eq_zero hpv
  subst hpv'
  have e0 : (decide ((((List.length ([] : List (List (List UInt8)))) : Int) : Int) > (0 : Int))) = false := rfl
  have e1 : (decide ((((List.length ([] : List (List (List UInt8)))) : Int) : Int) = (0 : Int))) = true := rfl
  have e2 := a3w t s (by have := ht.len; omega)
  have e3 := a2K (ns := ns) (n := (inS s t, [], [], [], [], ())) (ks := []) rfl (by simp) List.nodup_nil (by simp) (by omega)
  have e4 : mk (ns ++ [(inS s t, [], [], [], [], ())]) (fun j => if j ∈ ([] : List Nat) then 2 else 1) = mk (ns ++ [(inS s t, [], [], [], [], ())]) (fun _ => 1) := afY fun j _ => by simp
  rw [e4] at e3
  refine ⟨[(inS s t, [], [], [], [], ())], ns.length, ?_, by simp, Nat.le_refl _, ⟨(inS s t, [], [], [], [], ()), by simp, .inl ⟨rfl, rfl, ?_, ?_⟩⟩⟩
  · simp only [gJ, e0, cond_false, uC, e1, cond_true, e2, e3]
  · have := a1D s t
    have := ht.len
    show (inS s t).length <= 1000
    omega
  · intro p hp
    exact ht.key p (List.mem_filter.1 hp).1
theorem azG (r : BR) (t : List ae) (x : aF) (hx : XOK x) (d c : Nat) (hr : asy r t x d c) : asy (gJ r) t x (d + 1) (1 + 6 * c) := by
  intro ns s pv hpv hq hn
  have h0 : 0 < pv.length := by omega
  have hq0 : (List.getD pv 0 []).length <= 5 := by
    rw [fa h0]
    exact hq _ (List.getElem_mem h0)
  have e0 : (decide ((((List.length pv) : Int) : Int) > (0 : Int))) = true := aK (by omega)
  have e1 : (decide ((((List.length pv) : Int) : Int) = (0 : Int))) = false := bK (by omega)
  obtain ⟨mine, m1, m2⟩ := a2R r t pv (mk ns (fun _ => 1), ()) s x h0 (by omega)
  have hm : mine.length <= 5 := by omega
  have e2 : IntKind.i64.wrap (((List.length mine) : Int) + 1) = ((mine.length + 1 : Nat) : Int) := by rw [cE (by omega)]; omega
  have e3 : (decide ((0 : Int) <= ((mine.length + 1 : Nat) : Int)) && decide (((mine.length + 1 : Nat) : Int) <= ((mine.length + 1 : Nat) : Int)) && decide (((mine.length + 1 : Nat) : Int) * (8 : Int) <= (aw : Int))) = true := by
    rw [aK (by omega), aK (by omega), aK (by rw [cD]; omega)]; rfl
  obtain ⟨parts, p1, p2⟩ := a26 ([], mine, List.replicate (mine.length + 1) (0 : Int), [], [], ()) s (by simp [List.replicate_succ]) (by show mine.length <= 100000; omega)
  have p2 : parts.length = mine.length + 1 := p2
  have hmul : parts.length * c <= 6 * c := Nat.mul_le_mul_right c (by omega)
  obtain ⟨q, q1, q2, q3, q4, q5, q6⟩ := a2S r t x d c hr ns s pv hpv hq parts mine (by omega) (by omega)
  have fin : ∀ w : Nat, w < 4 -> ∃ l i, py r ((w : Int), (mk (ns ++ q.l) (fun _ => 1), ()), s, x, [], 0, [], [], mine, kR q.ks, q.sums, ()) = some (((mk (ns ++ l) (fun _ => 1), ()), ((i : Nat) : Int), ()), ()) /\ l.length <= 1 + 6 * c /\ ns.length <= i /\ TreeOK (ns ++ l) (d + 1 + 1) i := by
    intro w hw
    obtain ⟨buf, b1, b2, b3⟩ := a2P r x hx w hw (mk (ns ++ q.l) (fun _ => 1), ()) s mine (kR q.ks) q.sums
    have b4 := a2Q r (ns ++ q.l) q.ks (fun k hk => (q6 k hk).lt) q5 (by simp; omega) (by omega) mine q.sums buf
    refine ⟨q.l ++ [([], mine, kR q.ks, q.sums, buf, ())], (ns ++ q.l).length, ?_, by simp; omega, by simp, ?_⟩
    · rw [b3, b4, List.append_assoc]
    · rw [<- List.append_assoc]
      refine ⟨([], mine, kR q.ks, q.sums, buf, ()), by rw [List.getElem?_append_right (Nat.le_refl _)]; simp, .inr ⟨by omega, q.ks, rfl, ?_, ?_, ?_, b1, b2, fun k hk => (q6 k hk).app _⟩⟩
      · show q.ks.length = mine.length + 1
        omega
      · show mine.length <= 100
        omega
      · show q.sums.length <= 1000
        omega
  have hw : Int.tmod ((List.length s.1) : Int) 3 = ((s.1.length % 3 : Nat) : Int) := by
    rw [Int.tmod_eq_emod_of_nonneg (by omega)]
    omega
  have e4 : IntKind.i64.wrap ((1 : Int) + ((s.1.length % 3 : Nat) : Int)) = ((1 + s.1.length % 3 : Nat) : Int) := by rw [cE (by omega)]; omega
  simp only [gJ, e0, cond_true, m1, uC, e1, cond_false, e2, e3, Int.toNat_natCast, p1, q1, hw, e4]
  cases (!(Ty.eqb ac s (([] : List UInt8), (([] : List UInt8), ()))))
  · exact fin 0 (by omega)
  · exact fin _ (by omega)
end D
/- Plain: the trees of the laws. -/
open Go Go.X
namespace D
theorem a1E (p q : ae) : ∀ t : List ae, q ∈ ins p t -> q = p \/ q ∈ t
  | [], h => by simp [ins] at h; exact .inl h
  | x :: t, h => by
    unfold ins at h
    cases hb : Op.bytesLess x.1 p.1
    · rw [hb, cond_false] at h
      rcases List.mem_cons.1 h with h | h
      · exact .inl h
      · exact .inr (List.mem_filter.1 h).1
    · rw [hb, cond_true] at h
      rcases List.mem_cons.1 h with h | h
      · exact .inr (by rw [h]; exact List.mem_cons_self)
      · exact (a1E p q t h).imp id (List.mem_cons_of_mem _)
theorem a28 (l : List aZ) (q : ae) (h : q ∈ aey l) : ∃ y ∈ l, q = aaQ y := by
  have key : ∀ (l : List aZ) (t : List ae), q ∈ l.foldl (fun t x => ins (aaQ x) t) t -> q ∈ t \/ ∃ y ∈ l, q = aaQ y := by
    intro l
    induction l with
    | nil => intro t h; exact .inl h
    | cons x l ih =>
      intro t h
      rcases ih _ h with h | ⟨y, hy, e⟩
      · rcases a1E _ _ _ h with h | h
        · exact .inr ⟨x, List.mem_cons_self, h⟩
        · exact .inl h
      · exact .inr ⟨y, List.mem_cons_of_mem _ hy, e⟩
  rcases key l [] h with h | h
  · simp at h
  · exact h
theorem a3R (n : Int) (h0 : 0 <= n) (h1 : n < 256) : PlOK (asY n) := by
  obtain ⟨m, rfl⟩ := Int.eq_ofNat_of_zero_le h0
  have hc : (List.range 256).all (fun k => (sW (asY ((k : Nat) : Int), ())).isSome) = true := by kernel_rfl
  exact List.all_eq_true.1 hc m (List.mem_range.2 (by omega))
theorem a4J (l : List aZ) (h : ∀ x ∈ l, raw24 x) : TOK (aey (l.take 40)) := by
  refine ⟨?_, fun p hp => ?_⟩
  · have := axi (l.take 40)
    simp only [List.length_take] at this
    omega
  · obtain ⟨y, hy, rfl⟩ := a28 _ _ hp
    have := (h y (List.mem_of_mem_take hy)).1
    exact a3R y.1 this.1 this.2
def cap : Nat -> Nat
  | 0 => 1
  | d + 1 => 1 + 6 * cap d
theorem aoE (t : List ae) (x : aF) (ht : TOK t) (hx : XOK x) : ∀ d n, d + 1 <= n -> asy (jP n) t x d (cap d)
  | d, 0, h => by omega
  | 0, n + 1, _ => azF (jP n) t x ht
  | d + 1, n + 1, h => azG (jP n) t x hx d (cap d) (aoE t x ht hx d n (by omega))
structure a2H (x : aF) : Prop where
  xok : XOK x
  t : (∀ y ∈ x.1, raw24 y) /\ x.1.length < 1000000000000000000
  w : 0 <= x.2.2.1 /\ x.2.2.1 < 256
def LV : List (List (List (List UInt8))) := [[], [[[97, 47, 98, 47], [98, 47], [99, 47]]], [[[98, 47]], [[97, 47, 2], [97, 47, 98, 47], [99, 47]]], [[[97, 47, 98, 47], [98, 47]], [[97, 47, 98, 47, 2], [99, 47], [100, 47]]]]
def shp (w : Int) : aZ := (IntKind.i64.wrap (2 + IntKind.i64.wrap (Int.tmod (IntKind.u8.wrap (Int.tdiv w 4)) 4)), (IntKind.i64.wrap (2 + IntKind.i64.wrap (Int.tmod (IntKind.u8.wrap (Int.tdiv w 16)) 3)), (IntKind.i64.wrap (1 + IntKind.i64.wrap (IntKind.u8.wrap (Int.tdiv w 64))), ())))
theorem a3o (x : aF) : adn (x, ()) = match zi (x.1, ()) with
    | none => none
    | some r0 => bif (decide ((0 : Int) <= IntKind.i64.wrap (Int.tmod x.2.2.1 4)) && decide (IntKind.i64.wrap (Int.tmod x.2.2.1 4) < (List.length LV : Int))) then
        match aah ((([] : List (ak)), ()), r0.1, (([] : List UInt8), (([] : List UInt8), ())), List.getD LV (Int.toNat (IntKind.i64.wrap (Int.tmod x.2.2.1 4))) [], x, ()) with
        | none => none
        | some r3 => some ((r3.1.1, (r3.1.2.1, (shp x.2.2.1, ()))), ())
      else none := rfl
theorem a4A : ∀ w, w < 4 -> (List.getD LV w []).length <= 2 /\ ∀ q ∈ List.getD LV w [], q.length <= 5 := by
  intro w hw
  match w, hw with
  | 0, _ => decide
  | 1, _ => decide
  | 2, _ => decide
  | 3, _ => decide
theorem a2C (x : aF) (h : a2H x) : ∃ ns root hh, adn (x, ()) = some (((mk ns (fun _ => 1), ()), (((root : Nat) : Int), (shp x.2.2.1, ()))), ()) /\ TreeOK ns hh root /\ 1 <= hh /\ hh <= 3 /\ ns.length <= 100 := by
  have e0 := a2p x.1 h.t.1 h.t.2
  have ht := a4J x.1 h.t.1
  obtain ⟨w, hw⟩ : ∃ w, x.2.2.1.toNat % 4 = w := ⟨_, rfl⟩
  have hw4 : w < 4 := by omega
  have e1 : IntKind.i64.wrap (Int.tmod x.2.2.1 (4 : Int)) = ((w : Nat) : Int) := by
    have := h.w
    rw [Int.tmod_eq_emod_of_nonneg this.1, cE (by omega)]
    omega
  obtain ⟨l1, l2⟩ := a4A w hw4
  obtain ⟨pv, hpv⟩ : ∃ pv, List.getD LV w [] = pv := ⟨_, rfl⟩
  rw [hpv] at l1 l2
  have hc : cap pv.length <= 43 := by
    match pv.length, l1 with
    | 0, _ => decide
    | 1, _ => decide
    | 2, _ => decide
  obtain ⟨l, i, b1, b2, b3, b4⟩ := aoE (aey (x.1.take 40)) x ht h.xok pv.length aqr (by rw [aqU]; omega) [] (([] : List UInt8), (([] : List UInt8), ())) pv rfl l2 (by simp; omega)
  have b1' : aah ((([] : List (ak)), ()), aey (x.1.take 40), (([] : List UInt8), (([] : List UInt8), ())), pv, x, ()) = some (((mk ([] ++ l) (fun _ => 1), ()), ((i : Nat) : Int), ()), ()) := b1
  have e2 : (decide ((0 : Int) <= (w : Int))) = true := aK (by omega)
  have e3 : (decide ((w : Int) < (List.length LV : Int))) = true := aK (by have : LV.length = 4 := rfl; omega)
  refine ⟨[] ++ l, i, pv.length + 1, ?_, b4, by omega, by omega, by simp; omega⟩
  rw [a3o]
  simp only [e0, e1, e2, e3, Bool.and_self, cond_true, Int.toNat_natCast, hpv, b1']
end D
/- Plain: searching; following a key. -/
open Go Go.X
namespace D
theorem a3q {I J : Nat} (h : I + J < 4611686018427387904) : Int.fdiv (IntKind.u64.wrap (IntKind.i64.wrap ((I : Int) + (J : Int)))) (2 ^ (min (Int.toNat (1 : Int)) IntKind.u64.bits)) = (((I + J) / 2 : Nat) : Int) := by
  have e1 : IntKind.i64.wrap ((I : Int) + (J : Int)) = ((I + J : Nat) : Int) := by rw [cE (by omega)]; omega
  have e2 : IntKind.u64.wrap ((I + J : Nat) : Int) = ((I + J : Nat) : Int) := by
    show ((I + J : Nat) : Int) % 2 ^ 64 = _
    omega
  rw [e1, e2]
  have e3 : (2 : Int) ^ (min (Int.toNat (1 : Int)) IntKind.u64.bits) = 2 := by decide
  rw [e3, Int.fdiv_eq_ediv_of_nonneg _ (by omega)]
  omega
theorem a3k (a b : List UInt8) : rY (a, b, ()) = some (Op.bytesLess a b, ()) := by
  simp [rY, jM]
theorem a4h (l : List (List UInt8)) (k : List UInt8) (hl : l.length <= 100000) :
    ∃ (i : Nat) (b : Bool), ck (l, k, ()) = some ((i : Int), b, ()) /\ i <= l.length /\ (b = true -> i < l.length) := by
  obtain ⟨r, h1, I, rfl, hI⟩ := ahn (b := bV) (fun s => (s.2.2.2.2.1 - s.2.2.2.1).toNat)
    (fun s => ∃ I J : Nat, s = (l, k, (l.length : Int), (I : Int), (J : Int), ()) /\ I <= J /\ J <= l.length)
    (fun r => ∃ I : Nat, r = .inl (l, k, (l.length : Int), (I : Int), ()) /\ I <= l.length)
    (fun s hi => by
      obtain ⟨I, J, rfl, i1, i2⟩ := hi
      have hm := a3q (I := I) (J := J) (by omega)
      unfold bV
      simp only [hm]
      by_cases hij : I < J
      · left
        have c1 : ((I : Int) < (J : Int)) := by omega
        have w1 : IntKind.i64.wrap (((I + J) / 2 : Nat) : Int) = (((I + J) / 2 : Nat) : Int) := cE (by omega)
        have c2 : ((0 : Int) <= (((I + J) / 2 : Nat) : Int)) := by omega
        have c3 : ((((I + J) / 2 : Nat) : Int) < (l.length : Int)) := by omega
        have w2 : IntKind.i64.wrap ((((I + J) / 2 : Nat) : Int) + 1) = (((I + J) / 2 + 1 : Nat) : Int) := by rw [cE (by omega)]; omega
        simp only [w1, c1, c2, c3, aK, cond_true, Bool.and_self, Int.toNat_natCast, a3k, w2]
        cases Op.bytesLess (List.getD l ((I + J) / 2) []) k
        · simp only [cond_false]
          exact ⟨_, rfl, ⟨I, (I + J) / 2, rfl, by omega, by omega⟩, by simp; omega⟩
        · simp only [cond_true]
          exact ⟨_, rfl, ⟨(I + J) / 2 + 1, J, rfl, by omega, i2⟩, by simp; omega⟩
      · right
        have c1 : ¬ ((I : Int) < (J : Int)) := by omega
        simp only [c1, bK, cond_false, not_false_eq_true]
        exact ⟨_, rfl, I, rfl, by omega⟩)
    (l, k, (l.length : Int), (0 : Int), (l.length : Int), ()) ⟨0, l.length, by simp, by omega, by omega⟩ (by simp; omega)
  have h1' : dq (l, k, (l.length : Int), (0 : Int), (l.length : Int), ()) = some (.inl (l, k, (l.length : Int), (I : Int), ())) := h1
  simp only [ck, h1']
  by_cases hlt : I < l.length
  · have c1 : ((I : Int) < (l.length : Int)) := by omega
    have c2 : ((0 : Int) <= (I : Int)) := by omega
    have e1 : ∀ a : List UInt8, (!decide (a = a)) = false := by simp
    simp only [c1, c2, aK, cond_true, Bool.and_self, lC, e1, cond_false]
    cases (!decide ((List.getD l (Int.toNat (I : Int)) ([] : List UInt8)) = k))
    · exact ⟨I, true, rfl, hI, fun _ => hlt⟩
    · exact ⟨I, false, rfl, hI, fun h => by cases h⟩
  · have c1 : ¬ ((I : Int) < (l.length : Int)) := by omega
    simp only [c1, bK, cond_false, not_false_eq_true]
    exact ⟨I, false, rfl, hI, fun h => by cases h⟩
theorem a4x (k : List UInt8) (ps : List (List UInt8)) (hl : ps.length <= 1000) : ∃ i : Nat, ahw (k, ps, ()) = some ((i : Int), ()) /\ i <= ps.length := by
  obtain ⟨i, b, h1, h2, h3⟩ := a4h ps k (by omega)
  simp only [ahw, h1]
  cases b
  · exact ⟨i, rfl, h2⟩
  · have := h3 rfl
    exact ⟨i + 1, by simp only [cond_true]; rw [cE (by omega)]; rfl, this⟩
theorem a2v (p : ae) (k : List UInt8) : ∃ c, ln (p, k, ()) = some (c, ()) := ⟨_, by unfold ln sc de; rfl⟩
theorem a2F (f : eo) (p : ae) (b : Bool) : ∃ q c, tg (f, p, b, ()) = some (q, c, ()) := by
  simp only [tg]
  cases f.1
  · cases b
    · exact ⟨_, _, rfl⟩
    · cases f.2.2.2.2.1 <;> exact ⟨_, _, rfl⟩
  · exact ⟨_, _, rfl⟩
end D
/- Plain: a key is followed through messages. -/
open Go Go.X
namespace D
abbrev F8 : Type := (Bool) × (Bool) × (List UInt8) × (List UInt8) × (Int) × (List UInt8) × (Bool) × (Int) × Unit
abbrev Q16 : Type := (Bool) × (Bool) × (List UInt8) × (List UInt8) × (Int) × (List UInt8) × (Bool) × (Int) × (Bool) × (Bool) × (List UInt8) × (List UInt8) × (Int) × (List UInt8) × (Bool) × (Int) × Unit
theorem a01 (s : aa) (k : List UInt8) : ∃ b, uJ (s, k, ()) = some (b, ()) := by
  simp only [uJ]
  cases (!(Op.bytesLess k s.1))
  · exact ⟨_, rfl⟩
  · cases (!decide (s.2.1 = ([] : List UInt8))) <;> exact ⟨_, rfl⟩
theorem a1I (a b : List UInt8) : ∃ c, bG (a, b, ()) = some (c, ()) /\ (c = true -> b.length <= a.length) := by
  by_cases h : b.length <= a.length
  · have c1 : ((a.length : Int) >= (b.length : Int)) := by omega
    have c2 : ((0 : Int) <= (b.length : Int)) := by omega
    have c3 : ((b.length : Int) <= (a.length : Int)) := by omega
    simp only [bG, c1, c2, c3, aK, cond_true, Bool.and_self]
    exact ⟨_, rfl, fun _ => h⟩
  · have c1 : ¬ ((a.length : Int) >= (b.length : Int)) := by omega
    simp only [bG, c1, bK, cond_false, not_false_eq_true]
    exact ⟨false, rfl, fun h => by cases h⟩
theorem a2r (k a b : List UInt8) (hk : k.length <= 1000000) (hb : b.length <= 4) : ∃ r c, sD (k, a, b, ()) = some (r, c, ()) /\ (c = true -> r.length <= k.length + 4) := by
  obtain ⟨c, h1, h2⟩ := a1I k a
  simp only [sD, oB, gE, h1]
  cases c
  · exact ⟨_, _, rfl, fun h => by cases h⟩
  · have h3 := h2 rfl
    have c1 : ((0 : Int) <= (a.length : Int)) := by omega
    have c2 : ((a.length : Int) <= (k.length : Int)) := by omega
    have c3 : ((k.length : Int) <= (k.length : Int)) := by omega
    have c4 : b.length + (List.drop (Int.toNat (a.length : Int)) (List.take (Int.toNat (k.length : Int)) k)).length <= aw := by
      rw [cD]
      simp only [List.length_drop, List.length_take]
      omega
    have c5 : (decide (b.length + (List.drop (Int.toNat (a.length : Int)) (List.take (Int.toNat (k.length : Int)) k)).length <= aw)) = true := aK c4
    simp only [Bool.not_true, cond_false, aK c1, aK c2, aK c3, Bool.and_self, cond_true, c5]
    refine ⟨_, _, rfl, fun _ => ?_⟩
    simp only [List.length_append, List.length_drop, List.length_take]
    omega
theorem azC (m : ai) (f : F8) (hk : f.2.2.2.2.2.1.length <= 1000000) (hb : m.2.2.2.2.1.length <= 4) : ∃ b g, vD (m, f) = some (b, g) /\ (g.2.2.2.2.2.1.length <= f.2.2.2.2.2.1.length + 4 /\ (g.1, g.2.2.1) = (f.1, f.2.2.1)) := by
  obtain ⟨r, c, h1, h2⟩ := a2r f.2.2.2.2.2.1 m.2.2.2.2.2.1 m.2.2.2.2.1 hk hb
  simp only [vD, h1]
  cases c
  · exact ⟨_, _, rfl, by simp⟩
  · exact ⟨_, _, rfl, h2 rfl, rfl⟩
theorem axg (n : Int) (f : F8) : ∃ g, pK (n, f) = some g /\ g.2.2.2.2.2.1 = f.2.2.2.2.2.1 /\ (g.1, g.2.2.1) = (f.1, f.2.2.1) := by
  simp only [pK]
  cases (!f.2.2.2.2.2.2.1) <;> exact ⟨_, rfl, rfl, rfl⟩
theorem a44 (m : ai) (f : F8) : ∃ b g, vT (m, f) = some (b, g) /\ (g.2.2.2.2.2.1.length <= f.2.2.2.2.2.1.length + 4 /\ (g.1, g.2.2.1) = (f.1, f.2.2.1)) := by
  obtain ⟨g, h1, h2, h3⟩ := axg m.2.2.2.2.2.2.1 f
  simp only [vT]
  cases (!decide ((m.2.1 : List UInt8) = f.2.2.2.2.2.1))
  · have h1' : pK (m.2.2.2.2.2.2.1, f.1, f.2.1, f.2.2.1, f.2.2.2.1, f.2.2.2.2.1, f.2.2.2.2.2.1, f.2.2.2.2.2.2.1, f.2.2.2.2.2.2.2.1, ()) = some g := h1
    simp only [cond_false, h1']
    exact ⟨_, _, rfl, by simp only [h2]; omega, h3⟩
  · exact ⟨_, _, rfl, by simp⟩
theorem a45 (m : ai) (f : F8) : ∃ b g, abc (m, f) = some (b, g) /\ (g.2.2.2.2.2.1.length <= f.2.2.2.2.2.1.length + 4 /\ (g.1, g.2.2.1) = (f.1, f.2.2.1)) := ⟨_, _, rfl, by simp⟩
theorem a47 (m : ai) (f : F8) : ∃ b g, vU (m, f) = some (b, g) /\ (g.2.2.2.2.2.1.length <= f.2.2.2.2.2.1.length + 4 /\ (g.1, g.2.2.1) = (f.1, f.2.2.1)) := by
  obtain ⟨b, hb⟩ := a01 m.2.2.2.1 f.2.2.2.2.2.1
  simp only [vU, hb]
  exact ⟨_, _, rfl, by simp⟩
theorem a48 (m : ai) (f : F8) (hk : f.2.2.2.2.2.1.length <= 1000000) (hb : m.2.2.2.2.1.length <= 4) : ∃ b g, vV (m, f) = some (b, g) /\ (g.2.2.2.2.2.1.length <= f.2.2.2.2.2.1.length + 4 /\ (g.1, g.2.2.1) = (f.1, f.2.2.1)) := by
  obtain ⟨c, h1, -⟩ := a1I f.2.2.2.2.2.1 m.2.2.2.2.1
  obtain ⟨b, g, h2, h3⟩ := azC m f hk hb
  have h2' : vD (m, f.1, f.2.1, f.2.2.1, f.2.2.2.1, f.2.2.2.2.1, f.2.2.2.2.2.1, f.2.2.2.2.2.2.1, f.2.2.2.2.2.2.2.1, ()) = some (b, g) := h2
  simp only [vV, kX, h1]
  cases c
  · simp only [Bool.not_false, cond_true, h2']
    exact ⟨_, _, rfl, h3⟩
  · exact ⟨_, _, rfl, by simp⟩
theorem a49 (m : ai) (f : F8) : ∃ b g, vW (m, f) = some (b, g) /\ (g.2.2.2.2.2.1.length <= f.2.2.2.2.2.1.length + 4 /\ (g.1, g.2.2.1) = (f.1, f.2.2.1)) := by
  obtain ⟨b, hb⟩ := a01 m.2.2.2.1 f.2.2.2.2.2.1
  obtain ⟨g, h1, h2, h3⟩ := axg m.2.2.2.2.2.2.1 f
  have h1' : pK (m.2.2.2.2.2.2.1, f.1, f.2.1, f.2.2.1, f.2.2.2.1, f.2.2.2.2.1, f.2.2.2.2.2.1, f.2.2.2.2.2.2.1, f.2.2.2.2.2.2.2.1, ()) = some g := h1
  simp only [vW, hb]
  cases b
  · exact ⟨_, _, rfl, by simp⟩
  · simp only [cond_true, h1']
    exact ⟨_, _, rfl, by simp only [h2]; omega, h3⟩
def az8 (k : List UInt8) (t : F8) : Prop := t.1 = true /\ (t.2.1 = true -> t.2.2.1 = k) /\ (t.2.1 = false -> t.2.2.1 = [] /\ t.2.2.2.1 = [] /\ t.2.2.2.2.1 = 0)
theorem a4v (b : Bool) (q : Q16) : ∃ c p q', bW (b, (-1 : Int), q) = some (c, p, q') /\ ((c = true /\ p = 0 /\ q'.2.2.2.2.2.1 = q.2.2.2.2.2.1 /\ (q'.1, q'.2.2.1) = (q.1, q.2.2.1)) \/ (c = false /\ p = 1 /\ az8 q.2.2.1 q'.2.2.2.2.2.2.2.2)) := by
  have e1 : (decide ((-1 : Int) = -1)) = true := rfl
  simp only [bW, e1, cond_true]
  cases b
  · cases h : q.2.1
    · exact ⟨_, _, _, rfl, .inr ⟨rfl, rfl, rfl, fun h => (by cases h), fun _ => ⟨rfl, rfl, rfl⟩⟩⟩
    · exact ⟨_, _, _, rfl, .inr ⟨rfl, rfl, rfl, fun _ => rfl, fun h => (by cases h)⟩⟩
  · exact ⟨_, _, _, rfl, .inl ⟨rfl, rfl, rfl, rfl⟩⟩
end D
/- Plain: what messages tell of a key. -/
open Go Go.X
namespace D
theorem awZ : ∀ p ∈ paths5, p.length <= 4 := by decide
theorem a24 (i : Int) (m : ai) (hm : MsgOK m) (q : Q16) (hk : q.2.2.2.2.2.1.length <= 1000000) :
    ∃ c p q', bZ (i, m, (0 : Int), q) = some (c, p, q') /\ ((c = true /\ p = 0 /\ q'.2.2.2.2.2.1.length <= q.2.2.2.2.2.1.length + 4 /\ (q'.1, q'.2.2.1) = (q.1, q.2.2.1)) \/ (c = false /\ p = 1 /\ az8 q.2.2.1 q'.2.2.2.2.2.2.2.2)) := by
  obtain ⟨f, hf⟩ : ∃ f : F8, (q.1, q.2.1, q.2.2.1, q.2.2.2.1, q.2.2.2.2.1, q.2.2.2.2.2.1, q.2.2.2.2.2.2.1, q.2.2.2.2.2.2.2.1, ()) = f := ⟨_, rfl⟩
  have hfk : f.2.2.2.2.2.1 = q.2.2.2.2.2.1 := by rw [<- hf]
  have hfp : (f.1, f.2.2.1) = (q.1, q.2.2.1) := by rw [<- hf]
  have fin : ∀ (b : Bool) (g : F8), (g.2.2.2.2.2.1.length <= f.2.2.2.2.2.1.length + 4 /\ (g.1, g.2.2.1) = (f.1, f.2.2.1)) ->
      ∃ c p q', bW ((!b), (-1 : Int), g.1, g.2.1, g.2.2.1, g.2.2.2.1, g.2.2.2.2.1, g.2.2.2.2.2.1, g.2.2.2.2.2.2.1, g.2.2.2.2.2.2.2.1, q.2.2.2.2.2.2.2.2.1, q.2.2.2.2.2.2.2.2.2.1, q.2.2.2.2.2.2.2.2.2.2.1, q.2.2.2.2.2.2.2.2.2.2.2.1, q.2.2.2.2.2.2.2.2.2.2.2.2.1, q.2.2.2.2.2.2.2.2.2.2.2.2.2.1, q.2.2.2.2.2.2.2.2.2.2.2.2.2.2.1, q.2.2.2.2.2.2.2.2.2.2.2.2.2.2.2.1, ()) = some (c, p, q') /\ ((c = true /\ p = 0 /\ q'.2.2.2.2.2.1.length <= q.2.2.2.2.2.1.length + 4 /\ (q'.1, q'.2.2.1) = (q.1, q.2.2.1)) \/ (c = false /\ p = 1 /\ az8 q.2.2.1 q'.2.2.2.2.2.2.2.2)) := by
    intro b g hg
    obtain ⟨c, p, q', h1, h2⟩ := a4v (!b) (g.1, g.2.1, g.2.2.1, g.2.2.2.1, g.2.2.2.2.1, g.2.2.2.2.2.1, g.2.2.2.2.2.2.1, g.2.2.2.2.2.2.2.1, q.2.2.2.2.2.2.2.2.1, q.2.2.2.2.2.2.2.2.2.1, q.2.2.2.2.2.2.2.2.2.2.1, q.2.2.2.2.2.2.2.2.2.2.2.1, q.2.2.2.2.2.2.2.2.2.2.2.2.1, q.2.2.2.2.2.2.2.2.2.2.2.2.2.1, q.2.2.2.2.2.2.2.2.2.2.2.2.2.2.1, q.2.2.2.2.2.2.2.2.2.2.2.2.2.2.2.1, ())
    have hp : (g.1, g.2.2.1) = (q.1, q.2.2.1) := hg.2.trans hfp
    have hp2 : g.2.2.1 = q.2.2.1 := congrArg Prod.snd hp
    refine ⟨c, p, q', h1, h2.imp (fun ⟨a, b, e, e2⟩ => ⟨a, b, ?_, ?_⟩) (fun ⟨a, b, e⟩ => ⟨a, b, ?_⟩)⟩
    · rw [e, <- hfk]
      exact hg.1
    · rw [e2]
      exact hp
    · rw [<- hp2]
      exact e
  have hk' : f.2.2.2.2.2.1.length <= 1000000 := by rw [hfk]; exact hk
  rcases hm.kind with h | h | h | h | h | h
  · obtain ⟨b, g, e, hg⟩ := a44 m f
    rw [<- hf] at e
    simp only [bZ, h, decide_true, cond_true, cond_false, show (decide ((0 : Int) <= 1) && decide ((1 : Int) < 7)) = true from rfl, show Nat.beq (Int.toNat (1 : Int)) 6 = false from rfl, show Nat.beq (Int.toNat (1 : Int)) 5 = false from rfl, show Nat.beq (Int.toNat (1 : Int)) 4 = false from rfl, show Nat.beq (Int.toNat (1 : Int)) 3 = false from rfl, show Nat.beq (Int.toNat (1 : Int)) 2 = false from rfl, show Nat.beq (Int.toNat (1 : Int)) 1 = true from rfl, e]
    exact fin b g hg
  · obtain ⟨b, g, e, hg⟩ := a45 m f
    rw [<- hf] at e
    simp only [bZ, h, decide_true, cond_true, cond_false, show (decide ((0 : Int) <= 2) && decide ((2 : Int) < 7)) = true from rfl, show Nat.beq (Int.toNat (2 : Int)) 6 = false from rfl, show Nat.beq (Int.toNat (2 : Int)) 5 = false from rfl, show Nat.beq (Int.toNat (2 : Int)) 4 = false from rfl, show Nat.beq (Int.toNat (2 : Int)) 3 = false from rfl, show Nat.beq (Int.toNat (2 : Int)) 2 = true from rfl, e]
    exact fin b g hg
  · obtain ⟨b, g, e, hg⟩ := a47 m f
    rw [<- hf] at e
    simp only [bZ, h, decide_true, cond_true, cond_false, show (decide ((0 : Int) <= 3) && decide ((3 : Int) < 7)) = true from rfl, show Nat.beq (Int.toNat (3 : Int)) 6 = false from rfl, show Nat.beq (Int.toNat (3 : Int)) 5 = false from rfl, show Nat.beq (Int.toNat (3 : Int)) 4 = false from rfl, show Nat.beq (Int.toNat (3 : Int)) 3 = true from rfl, e]
    exact fin b g hg
  · obtain ⟨b, g, e, hg⟩ := a48 m f hk' (awZ _ (hm.from_ (.inl h)))
    rw [<- hf] at e
    simp only [bZ, h, decide_true, cond_true, cond_false, show (decide ((0 : Int) <= 4) && decide ((4 : Int) < 7)) = true from rfl, show Nat.beq (Int.toNat (4 : Int)) 6 = false from rfl, show Nat.beq (Int.toNat (4 : Int)) 5 = false from rfl, show Nat.beq (Int.toNat (4 : Int)) 4 = true from rfl, e]
    exact fin b g hg
  · obtain ⟨b, g, e, hg⟩ := azC m f hk' (awZ _ (hm.from_ (.inr h)))
    rw [<- hf] at e
    simp only [bZ, h, decide_true, cond_true, cond_false, show (decide ((0 : Int) <= 5) && decide ((5 : Int) < 7)) = true from rfl, show Nat.beq (Int.toNat (5 : Int)) 6 = false from rfl, show Nat.beq (Int.toNat (5 : Int)) 5 = true from rfl, e]
    exact fin b g hg
  · obtain ⟨b, g, e, hg⟩ := a49 m f
    rw [<- hf] at e
    simp only [bZ, h, decide_true, cond_true, cond_false, show (decide ((0 : Int) <= 6) && decide ((6 : Int) < 7)) = true from rfl, show Nat.beq (Int.toNat (6 : Int)) 6 = true from rfl, e]
    exact fin b g hg
theorem a4w (l : List ai) (hl : ∀ m ∈ l, MsgOK m) (hn : l.length <= 1000) (q : Q16) (hk : q.2.2.2.2.2.1.length <= 100000) :
    ∃ z, dj (((l.length : Int) - 1), (0 : Int), l, q) = some z /\ ((∃ q' : Q16, z = .inl ((1 : Int), l, q') /\ az8 q.2.2.1 q'.2.2.2.2.2.2.2.2) \/ ∃ q' : Q16, z = .inr ((0 : Int), l, q') /\ q'.2.2.2.2.2.1.length <= q.2.2.2.2.2.1.length + 4 * l.length /\ (q'.1, q'.2.2.1) = (q.1, q.2.2.1)) := by
  obtain ⟨z, h1, h2⟩ := eu (b := bB) (fun j (q : Q16) => (((l.length : Int) - 1 - (j : Int)), (0 : Int), l, q)) l.length (fun j q' => q'.2.2.2.2.2.1.length <= q.2.2.2.2.2.1.length + 4 * j /\ (q'.1, q'.2.2.1) = (q.1, q.2.2.1))
    (fun z => (∃ q' : Q16, z = .inl ((1 : Int), l, q') /\ az8 q.2.2.1 q'.2.2.2.2.2.2.2.2) \/ ∃ q' : Q16, z = .inr ((0 : Int), l, q') /\ q'.2.2.2.2.2.1.length <= q.2.2.2.2.2.1.length + 4 * l.length /\ (q'.1, q'.2.2.1) = (q.1, q.2.2.1)) (by omega)
    (fun j hj q' hq => by
      obtain ⟨i, hi⟩ : ∃ i : Nat, l.length - 1 - j = i := ⟨_, rfl⟩
      have hil : i < l.length := by omega
      have ei : ((l.length : Int) - 1 - (j : Int)) = (i : Int) := by omega
      have e1 : (decide ((i : Int) >= (0 : Int))) = true := aK (by omega)
      have e2 : (decide ((0 : Int) <= (i : Int))) = true := aK (by omega)
      have e3 : (decide ((i : Int) < (List.length l : Int))) = true := aK (by omega)
      have e4 : IntKind.i64.wrap ((i : Int) - 1) = ((l.length : Int) - 1 - ((j + 1 : Nat) : Int)) := by rw [cE (by omega)]; omega
      obtain ⟨c, p, q2, g1, g2⟩ := a24 (i : Int) l[i] (hl _ (List.getElem_mem hil)) q' (by omega)
      rw [ei]
      have g1' : bZ ((i : Int), l[i], (0 : Int), q'.1, q'.2.1, q'.2.2.1, q'.2.2.2.1, q'.2.2.2.2.1, q'.2.2.2.2.2.1, q'.2.2.2.2.2.2.1, q'.2.2.2.2.2.2.2.1, q'.2.2.2.2.2.2.2.2.1, q'.2.2.2.2.2.2.2.2.2.1, q'.2.2.2.2.2.2.2.2.2.2.1, q'.2.2.2.2.2.2.2.2.2.2.2.1, q'.2.2.2.2.2.2.2.2.2.2.2.2.1, q'.2.2.2.2.2.2.2.2.2.2.2.2.2.1, q'.2.2.2.2.2.2.2.2.2.2.2.2.2.2.1, q'.2.2.2.2.2.2.2.2.2.2.2.2.2.2.2.1, ()) = some (c, p, q2) := g1
      simp only [bB, e1, e2, e3, cond_true, Bool.and_self, Int.toNat_natCast, fa hil, g1', e4]
      rcases g2 with ⟨rfl, rfl, g3, g5⟩ | ⟨rfl, rfl, g4⟩
      · left
        exact ⟨q2, ⟨by omega, g5.trans hq.2⟩, rfl⟩
      · right
        exact ⟨_, .inl ⟨q2, rfl, by have e5 : q'.2.2.1 = q.2.2.1 := congrArg Prod.snd hq.2; rw [<- e5]; exact g4⟩, rfl⟩)
    (fun q' hq => by
      have ei : ((l.length : Int) - 1 - ((l.length : Nat) : Int)) = -1 := by omega
      have e1 : (decide ((-1 : Int) >= (0 : Int))) = false := rfl
      rw [ei]
      simp only [bB, e1, cond_false]
      exact ⟨_, .inr ⟨q', rfl, hq⟩, rfl⟩) q ⟨by omega, rfl⟩
  refine ⟨z, ?_, h2⟩
  have h1' := h1
  simp only [Int.natCast_zero, Int.sub_zero] at h1'
  exact h1'
def x6 (k : List UInt8) (f : eo) : Prop := (f.1 = false -> f.2.2.1.1 = k) /\ (f.1 = true -> (f.2.1 = true -> f.2.2.1.1 = k) /\ (f.2.1 = false -> f.2.2.1 = ([], [], 0, ())))
theorem a3P (k : List UInt8) (l : List ai) (hl : ∀ m ∈ l, MsgOK m) (hn : l.length <= 1000) (hk : k.length <= 100000) :
    ∃ f : eo, aco (k, l, ()) = some (f, ()) /\ (f.1 = false -> f.2.2.2.1.length <= k.length + 4 * l.length) /\ x6 k f := by
  have e0 : IntKind.i64.wrap (((List.length l) : Int) - 1) = ((l.length : Int) - 1) := by rw [cE (by omega)]
  obtain ⟨z, h1, h2⟩ := a4w l hl hn (false, false, k, [], 0, k, false, 0, false, false, [], [], 0, [], false, 0, ()) hk
  simp only [aco, cN, ee, e0, h1]
  rcases h2 with ⟨q', rfl, h4, h5, h6⟩ | ⟨q', rfl, h3, h4⟩
  · have c1 : (decide ((1 : Int) = 0)) = false := rfl
    have c2 : (decide ((1 : Int) = 1)) = true := rfl
    simp only [c1, c2, cond_true, cond_false]
    refine ⟨_, rfl, fun h => absurd (h4.symm.trans h) (by simp), fun h => absurd (h4.symm.trans h) (by simp), fun _ => ⟨h5, fun h => ?_⟩⟩
    obtain ⟨a, b, c⟩ := h6 h
    simp only [a, b, c]
  · have c1 : (decide ((0 : Int) = 0)) = true := rfl
    simp only [c1, cond_true]
    exact ⟨_, rfl, fun _ => h3, fun _ => congrArg Prod.snd h4, fun h => absurd ((congrArg Prod.fst h4).symm.trans h) (by simp)⟩
end D
/- Plain: what searching tells. -/
open Go Go.X
namespace D
def a2U (x y : List UInt8) : Int := if Op.bytesLess x y = true then -1 else if x = y then 0 else 1
theorem a3G {x y : List UInt8} : (a2U x y = 0) ↔ x = y := by
  unfold a2U
  split
  · rename_i h
    have := a2N h
    simp [this]
  · split <;> simp [*]
theorem azH : ∀ (a b : List UInt8), Lib.compareBytes a b = a2U a b
  | [], [] => rfl
  | [], _ :: _ => rfl
  | _ :: _, [] => rfl
  | a :: x, b :: y => by
    have ih := azH x y
    rw [Lib.compareBytes]
    unfold a2U at ih ⊢
    simp only [Op.bytesLess]
    by_cases h1 : a < b
    · simp [h1]
    · by_cases h2 : b < a
      · have h3 : a ≠ b := by rintro rfl; exact h1 h2
        simp [h1, h2, h3]
      · have h3 : a = b := UInt8.le_antisymm (UInt8.not_lt.1 h2) (UInt8.not_lt.1 h1)
        subst h3
        rw [if_neg h1, if_neg h1, ih]
        simp
theorem a1o (p : ae) (k : List UInt8) : ln (p, k, ()) = some (a2U p.1 k, ()) := by
  unfold ln sc de
  simp only [azH]
def al3 (k : List UInt8) (p : ae) (b : Bool) : Prop := (b = true -> p.1 = k) /\ (b = false -> p = ([], [], 0, ()))
theorem a2O (l : List ae) (k : List UInt8) (hl : l.length <= 100000) :
    ∃ (i : Nat) (b : Bool), bu (l, k, ()) = some ((i : Int), b, ()) /\ (b = true -> i < l.length /\ (List.getD l i (([] : List UInt8), (([] : List UInt8), ((0 : Int), ())))).1 = k) := by
  obtain ⟨r, h1, I, rfl, hI⟩ := ahn (b := bn) (fun s => (s.2.2.2.2.1 - s.2.2.2.1).toNat)
    (fun s => ∃ I J : Nat, s = (l, k, (l.length : Int), (I : Int), (J : Int), ()) /\ I <= J /\ J <= l.length)
    (fun r => ∃ I : Nat, r = .inl (l, k, (l.length : Int), (I : Int), ()) /\ I <= l.length)
    (fun s hi => by
      obtain ⟨I, J, rfl, i1, i2⟩ := hi
      have hm := a3q (I := I) (J := J) (by omega)
      unfold bn
      simp only [hm]
      by_cases hij : I < J
      · left
        have c1 : ((I : Int) < (J : Int)) := by omega
        have w1 : IntKind.i64.wrap (((I + J) / 2 : Nat) : Int) = (((I + J) / 2 : Nat) : Int) := cE (by omega)
        have c2 : ((0 : Int) <= (((I + J) / 2 : Nat) : Int)) := by omega
        have c3 : ((((I + J) / 2 : Nat) : Int) < (l.length : Int)) := by omega
        have w2 : IntKind.i64.wrap ((((I + J) / 2 : Nat) : Int) + 1) = (((I + J) / 2 + 1 : Nat) : Int) := by rw [cE (by omega)]; omega
        obtain ⟨c, hc⟩ := a2v (List.getD l ((I + J) / 2) (([] : List UInt8), (([] : List UInt8), ((0 : Int), ())))) k
        simp only [w1, c1, c2, c3, aK, cond_true, Bool.and_self, Int.toNat_natCast, hc, w2]
        cases decide (c < 0)
        · simp only [cond_false]
          exact ⟨_, rfl, ⟨I, (I + J) / 2, rfl, by omega, by omega⟩, by simp; omega⟩
        · simp only [cond_true]
          exact ⟨_, rfl, ⟨(I + J) / 2 + 1, J, rfl, by omega, i2⟩, by simp; omega⟩
      · right
        have c1 : ¬ ((I : Int) < (J : Int)) := by omega
        simp only [c1, bK, cond_false, not_false_eq_true]
        exact ⟨_, rfl, I, rfl, by omega⟩)
    (l, k, (l.length : Int), (0 : Int), (l.length : Int), ()) ⟨0, l.length, by simp, by omega, by omega⟩ (by simp; omega)
  have h1' : bH (l, k, (l.length : Int), (0 : Int), (l.length : Int), ()) = some (.inl (l, k, (l.length : Int), (I : Int), ())) := h1
  simp only [bu, h1']
  by_cases hlt : I < l.length
  · have c1 : ((I : Int) < (l.length : Int)) := by omega
    have c2 : ((0 : Int) <= (I : Int)) := by omega
    simp only [c1, c2, aK, cond_true, Bool.and_self, Int.toNat_natCast, a1o]
    exact ⟨I, _, rfl, fun hb => ⟨hlt, a3G.1 (of_decide_eq_true hb)⟩⟩
  · have c1 : ¬ ((I : Int) < (l.length : Int)) := by omega
    simp only [c1, bK, cond_false, not_false_eq_true]
    exact ⟨I, false, rfl, fun h => by cases h⟩
theorem a2Y (l : List ae) (k : List UInt8) (hl : l.length <= 100000) : ∃ p b, adx (l, k, ()) = some (p, b, ()) /\ al3 k p b := by
  obtain ⟨i, b, h1, h2⟩ := a2O l k hl
  simp only [adx, tf, h1]
  cases b
  · exact ⟨_, _, rfl, fun h => (by cases h), fun _ => rfl⟩
  · obtain ⟨h3, h4⟩ := h2 rfl
    have c1 : ((i : Int) < (l.length : Int)) := by omega
    have c2 : ((0 : Int) <= (i : Int)) := by omega
    simp only [c1, c2, aK, cond_true, Bool.and_self]
    exact ⟨_, _, rfl, fun _ => h4, fun h => (by cases h)⟩
theorem a2E (k : List UInt8) (f : eo) (hf : x6 k f) (p : ae) (b : Bool) : ∃ q c, tg (f, p, b, ()) = some (q, c, ()) /\ al3 k q c := by
  simp only [tg]
  cases h : f.1
  · cases b
    · exact ⟨_, _, rfl, fun h => (by cases h), fun _ => rfl⟩
    · cases f.2.2.2.2.1 <;> exact ⟨_, _, rfl, fun _ => hf.1 h, fun h => (by cases h)⟩
  · exact ⟨_, _, rfl, (hf.2 h).1, (hf.2 h).2⟩
end D
/- Plain: a key is got from a tree. -/
open Go Go.X
namespace D
theorem aqW (n : api_Node) : tl (n, ()) = some (decide ((((List.length n.2.2.1) : Int) : Int) = (0 : Int)), ()) := rfl
theorem a4p (k : List UInt8) (fs : List eo) (hf : fs.length <= 1000) (p : ae) (b : Bool) (n : Int) (hn : n >= 1) (h0 : fs = [] -> al3 k p b) (h1 : ∀ x, fs.getLast? = some x -> x6 k x) :
    ∃ q c, aas (0, fs, p, b, n, ()) = some (.inl (0, q, c, n, ())) /\ al3 k q c := by
  obtain ⟨r, h1, q, c, rfl, h2⟩ := ahn (b := th) (fun s => s.2.1.length) (fun s => s.1 = 0 /\ s.2.2.2.2.1 = n /\ (s.2.1 = [] -> al3 k s.2.2.1 s.2.2.2.1) /\ ∀ x, s.2.1.getLast? = some x -> x6 k x) (fun r => ∃ q c, r = .inl (0, q, c, n, ()) /\ al3 k q c)
    (fun s hi => by
      obtain ⟨e, fs, p, b, n', u⟩ := s
      obtain ⟨h1, h2, h3, h4⟩ := hi
      simp only at h1 h2 h3 h4
      subst h1 h2
      cases fs with
      | nil =>
        right
        exact ⟨_, rfl, p, b, rfl, h3 rfl⟩
      | cons x fs =>
        left
        have e1 : decide ((n' : Int) > (0 : Int)) = true := aK (by omega)
        cases hfs : fs with
        | nil =>
          have hx : x6 k x := h4 x (by rw [hfs]; rfl)
          obtain ⟨q, c, hq, hg⟩ := a2E k x hx p b
          simp only [th, List.isEmpty_cons, cond_false, List.head?_cons, hq, List.tail_cons, e1, cond_true]
          exact ⟨_, rfl, ⟨rfl, rfl, fun _ => hg, fun y hy => by cases hy⟩, by simp⟩
        | cons y ys =>
          obtain ⟨q, c, hq⟩ := a2F x p b
          simp only [th, List.isEmpty_cons, cond_false, List.head?_cons, hq, List.tail_cons, e1, cond_true]
          refine ⟨_, rfl, ⟨rfl, rfl, fun h => (by cases h), fun z hz => h4 z ?_⟩, by simp⟩
          rw [hfs, List.getLast?_cons_cons]
          exact hz) (0, fs, p, b, n, ()) ⟨rfl, rfl, h0, h1⟩ (by show fs.length < _; omega)
  exact ⟨q, c, h1, h2⟩
theorem a4q (ns : List api_Node) (sh : aZ) (root h : Nat) (hh : 1 <= h /\ h <= 100) (ht : TreeOK ns h root) (k : List UInt8) (hk : k.length <= 1000) :
    ∃ fs p b, ∃ n : Nat, aha (k, ((root : Nat) : Int), [], ((mk ns (fun _ => 1), ()), (((root : Nat) : Int), (sh, ()))), [], [], 0, false, 0, ()) = some (.inl (0, fs, p, b, (n : Int), ())) /\ fs.length <= 1000 /\ 1 <= n /\ n <= h /\ (fs = [] -> al3 k p b) /\ ∀ x, fs.getLast? = some x -> x6 k x := by
  obtain ⟨T, hT⟩ : ∃ T : az, ((mk ns (fun _ => 1), ()), (((root : Nat) : Int), (sh, ()))) = T := ⟨_, rfl⟩
  have hTp : T.1 = (mk ns (fun _ => 1), ()) := by rw [<- hT]
  rw [hT]
  obtain ⟨r, h1, fs, p, b, n, rfl, h2, h3, h4, h5, h6⟩ := eu (b := wI) (fun j (q : List UInt8 × Nat × List eo) => (q.1, ((q.2.1 : Nat) : Int), q.2.2, T, [], [], 0, false, (j : Int), ())) (h - 1)
    (fun j q => TreeOK ns (h - j) q.2.1 /\ q.1.length <= k.length + 20 * j /\ q.2.2.length = j /\ (j = 0 -> q.1 = k) /\ ∀ x, q.2.2.getLast? = some x -> x6 k x)
    (fun r => ∃ fs p b, ∃ n : Nat, r = .inl (0, fs, p, b, (n : Int), ()) /\ fs.length <= 1000 /\ 1 <= n /\ n <= h /\ (fs = [] -> al3 k p b) /\ ∀ x, fs.getLast? = some x -> x6 k x) (by omega)
    (fun j hj q hq => by
      obtain ⟨kk, id, fs⟩ := q
      obtain ⟨a1, a2, a3, a4, a5⟩ := hq
      simp only at a1 a2 a3 a4 a5
      have hid := a1.lt
      have e1 := zP (ns := ns) (r := fun _ => 1) hid
      have e2 : (!decide ((0 : Int) = 0)) = false := rfl
      have e3 : IntKind.i64.wrap ((j : Int) + 1) = ((j + 1 : Nat) : Int) := by rw [cE (by omega)]; omega
      obtain ⟨m, hm⟩ : ∃ m, h - j = m + 1 := ⟨h - j - 1, by omega⟩
      rw [hm] at a1
      obtain ⟨n, hn, hcase⟩ := a1
      have hn' : ns[id] = n := by
        have := List.getElem?_eq_getElem hid
        rw [hn] at this
        exact (Option.some.inj this).symm
      rcases hcase with ⟨m0, -⟩ | ⟨m0, ks, b1, b2, b3, b4, b5, b6, b7⟩
      · omega
      · have e4 : (decide ((((List.length n.2.2.1) : Int) : Int) = (0 : Int))) = false := bK (by rw [b1, gG]; omega)
        obtain ⟨f, f1, f2, f3⟩ := a3P kk n.2.2.2.2.1 b6 (by omega) (by omega)
        have hlast : ∀ x, (f :: fs).getLast? = some x -> x6 k x := by
          intro x hx
          cases fs with
          | nil =>
            obtain rfl := Option.some.inj hx
            rw [<- a4 (by rw [<- a3]; rfl)]
            exact f3
          | cons y ys =>
            rw [List.getLast?_cons_cons] at hx
            exact a5 x hx
        simp only [wI, hTp, e1, hn', e2, cond_false, aqW, e4, f1, e3]
        cases hf : f.1 with
        | true =>
          right
          exact ⟨_, ⟨f :: fs, _, false, j + 1, rfl, by simp; omega, by omega, by omega, fun h => (by cases h), hlast⟩, rfl⟩
        | false =>
          left
          obtain ⟨i, i1, i2⟩ := a4x f.2.2.2.1 n.2.1 (by omega)
          have hik : i < ks.length := by omega
          have e5 : (decide ((0 : Int) <= ((i : Nat) : Int))) = true := aK (by omega)
          have e6 : (decide (((i : Nat) : Int) < (List.length n.2.2.1 : Int))) = true := aK (by rw [b1, gG]; omega)
          have e7 : List.getD n.2.2.1 i 0 = ((ks[i] : Nat) : Int) := by rw [b1, vt hik]
          have hf2 := f2 hf
          refine ⟨(f.2.2.2.1, ks[i], f :: fs), ⟨?_, by simp only; omega, by simp [a3], fun h => (by omega), hlast⟩, by simp only [decide_true, Bool.not_true, cond_false, i1, e5, e6, Bool.and_self, cond_true, Int.toNat_natCast, e7]⟩
          have := b7 _ (List.getElem_mem hik)
          rw [show h - (j + 1) = m by omega]
          exact this)
    (fun q hq => by
      obtain ⟨kk, id, fs⟩ := q
      obtain ⟨a1, a2, a3, a4, a5⟩ := hq
      simp only at a1 a2 a3 a4 a5
      have hid := a1.lt
      have e1 := zP (ns := ns) (r := fun _ => 1) hid
      have e2 : (!decide ((0 : Int) = 0)) = false := rfl
      have e3 : IntKind.i64.wrap (((h - 1 : Nat) : Int) + 1) = ((h : Nat) : Int) := by rw [cE (by omega)]; omega
      have hm : h - (h - 1) = 0 + 1 := by omega
      rw [hm] at a1
      obtain ⟨n, hn, hcase⟩ := a1
      have hn' : ns[id] = n := by
        have := List.getElem?_eq_getElem hid
        rw [hn] at this
        exact (Option.some.inj this).symm
      rcases hcase with ⟨m0, b1, b2, b3⟩ | ⟨m0, -⟩
      · have e4 : (decide ((((List.length n.2.2.1) : Int) : Int) = (0 : Int))) = true := aK (by rw [b1]; rfl)
        obtain ⟨p, b, hp, hg⟩ := a2Y n.1 kk (by omega)
        exact ⟨_, ⟨fs, p, b, h, rfl, by omega, by omega, Nat.le_refl _, fun h0 => by rw [<- a4 (by rw [<- a3, h0]; rfl)]; exact hg, a5⟩, by simp only [wI, hTp, e1, hn', decide_true, Bool.not_true, e2, cond_false, aqW, e4, cond_true, hp, e3]⟩
      · exact (Nat.lt_irrefl _ m0).elim) (k, root, []) ⟨ht, by simp, rfl, fun _ => rfl, fun x hx => by cases hx⟩
  exact ⟨fs, p, b, n, h1, h2, h3, h4, h5, h6⟩
theorem a3K (ns : List api_Node) (sh : aZ) (root h : Nat) (hh : 1 <= h /\ h <= 100) (ht : TreeOK ns h root) (k : List UInt8) (hk : k.length <= 1000) :
    ∃ p b, ∃ n : Nat, zq (((mk ns (fun _ => 1), ()), (((root : Nat) : Int), (sh, ()))), k, ()) = some (p, b, (n : Int), 0, ()) /\ 1 <= n /\ n <= h /\ al3 k p b := by
  obtain ⟨fs, p, b, n, h1, h2, h3, h4, h6, h7⟩ := a4q ns sh root h hh ht k hk
  obtain ⟨q, c, h5, h8⟩ := a4p k fs h2 p b (n : Int) (by omega) h6 h7
  exact ⟨q, c, n, by simp only [zq, h1, h5], h3, h4, h8⟩
theorem a0W (ns : List api_Node) (sh : aZ) (root h : Nat) (hh : 1 <= h /\ h <= 100) (ht : TreeOK ns h root) :
    tj (((mk ns (fun _ => 1), ()), (((root : Nat) : Int), (sh, ()))), ()) = some ((h : Int), ()) := by
  obtain ⟨T, hT⟩ : ∃ T : az, ((mk ns (fun _ => 1), ()), (((root : Nat) : Int), (sh, ()))) = T := ⟨_, rfl⟩
  have hTp : T.1 = (mk ns (fun _ => 1), ()) := by rw [<- hT]
  have hTr : T.2.1 = ((root : Nat) : Int) := by rw [<- hT]
  rw [hT]
  have e1 := zP (ns := ns) (r := fun _ => 1) ht.lt
  obtain ⟨r, h1, rfl⟩ := eu (b := pL) (fun j (n : api_Node) => (((j + 1 : Nat) : Int), T, n, ())) (h - 1)
    (fun j n => ∃ id, TreeOK ns (h - j) id /\ ns[id]? = some n) (fun r => r = .inl ((h : Int), ())) (by omega)
    (fun j hj n hq => by
      left
      obtain ⟨id, a1, hn0⟩ := hq
      obtain ⟨m, hm⟩ : ∃ m, h - j = m + 1 := ⟨h - j - 1, by omega⟩
      rw [hm] at a1
      obtain ⟨n', hn, hcase⟩ := a1
      obtain rfl := Option.some.inj (hn.symm.trans hn0)
      rcases hcase with ⟨m0, -⟩ | ⟨m0, ks, b1, b2, b3, b4, b5, b6, b7⟩
      · omega
      · have hk0 : 0 < ks.length := by omega
        have e4 : (decide ((((List.length n'.2.2.1) : Int) : Int) = (0 : Int))) = false := bK (by rw [b1, gG]; omega)
        have e5 : (decide (((0 : Int) : Int) < (List.length n'.2.2.1 : Int))) = true := aK (by rw [b1, gG]; omega)
        have e7 : List.getD n'.2.2.1 0 0 = ((ks[0] : Nat) : Int) := by rw [b1, vt hk0]
        have b8 := b7 _ (List.getElem_mem hk0)
        have e8 := zP (ns := ns) (r := fun _ => 1) b8.lt
        have e3 : IntKind.i64.wrap (((j + 1 : Nat) : Int) + 1) = ((j + 1 + 1 : Nat) : Int) := by rw [cE (by omega)]; omega
        refine ⟨ns[ks[0]]'b8.lt, ⟨ks[0], ?_, List.getElem?_eq_getElem b8.lt⟩, by simp only [pL, aqW, e4, Bool.not_false, cond_true, e5, e7, hTp, e8, e3]⟩
        rw [show h - (j + 1) = m by omega]
        exact b8)
    (fun n hq => by
      obtain ⟨id, a1, hn0⟩ := hq
      have hm : h - (h - 1) = 0 + 1 := by omega
      rw [hm] at a1
      obtain ⟨n', hn, hcase⟩ := a1
      obtain rfl := Option.some.inj (hn.symm.trans hn0)
      rcases hcase with ⟨m0, b1, b2, b3⟩ | ⟨m0, -⟩
      · have e4 : (decide ((((List.length n'.2.2.1) : Int) : Int) = (0 : Int))) = true := aK (by rw [b1]; rfl)
        refine ⟨_, rfl, ?_⟩
        simp only [pL, aqW, e4, Bool.not_true, cond_false]
        rw [show ((h - 1 + 1 : Nat) : Int) = (h : Int) by omega]
      · exact (Nat.lt_irrefl _ m0).elim) (ns[root]'ht.lt) ⟨root, ht, List.getElem?_eq_getElem ht.lt⟩
  have h1' : zr ((1 : Int), T, ns[root]'ht.lt, ()) = some (.inl ((h : Int), ())) := h1
  simp only [tj, hTp, hTr, e1, h1']
end D
/- Plain: what is counted when a key is got. -/
open Go Go.X
namespace D
theorem awA (ns : List api_Node) (sh : aZ) (root h : Nat) (hh : 1 <= h /\ h <= 100) (ht : TreeOK ns h root) :
    xK (((mk ns (fun _ => 1), ()), (((root : Nat) : Int), (sh, ()))), ()) = some ((h : Int), ()) := by
  obtain ⟨T, hT⟩ : ∃ T : az, ((mk ns (fun _ => 1), ()), (((root : Nat) : Int), (sh, ()))) = T := ⟨_, rfl⟩
  have hTp : T.1 = (mk ns (fun _ => 1), ()) := by rw [<- hT]
  have hTr : T.2.1 = ((root : Nat) : Int) := by rw [<- hT]
  rw [hT]
  have e1 := akq (ns := ns) (r := fun _ => 1) ht.lt
  obtain ⟨r, h1, rfl⟩ := eu (b := mT) (fun j (n : api_Node) => (((j + 1 : Nat) : Int), T, n, ())) (h - 1)
    (fun j n => ∃ id, TreeOK ns (h - j) id /\ ns[id]? = some n) (fun r => r = .inl ((h : Int), ())) (by omega)
    (fun j hj n hq => by
      left
      obtain ⟨id, a1, hn0⟩ := hq
      obtain ⟨m, hm⟩ : ∃ m, h - j = m + 1 := ⟨h - j - 1, by omega⟩
      rw [hm] at a1
      obtain ⟨n', hn, hcase⟩ := a1
      obtain rfl := Option.some.inj (hn.symm.trans hn0)
      rcases hcase with ⟨m0, -⟩ | ⟨m0, ks, b1, b2, b3, b4, b5, b6, b7⟩
      · omega
      · have hk0 : 0 < ks.length := by omega
        have e4 : (decide ((((List.length n'.2.2.1) : Int) : Int) > (0 : Int))) = true := aK (by rw [b1, gG]; omega)
        have e5 : (decide (((0 : Int) : Int) < (List.length n'.2.2.1 : Int))) = true := aK (by rw [b1, gG]; omega)
        have e7 : List.getD n'.2.2.1 0 0 = ((ks[0] : Nat) : Int) := by rw [b1, vt hk0]
        have b8 := b7 _ (List.getElem_mem hk0)
        have e8 := akq (ns := ns) (r := fun _ => 1) b8.lt
        have e3 : IntKind.i64.wrap (((j + 1 : Nat) : Int) + 1) = ((j + 1 + 1 : Nat) : Int) := by rw [cE (by omega)]; omega
        refine ⟨ns[ks[0]]'b8.lt, ⟨ks[0], ?_, List.getElem?_eq_getElem b8.lt⟩, by simp only [mT, e4, cond_true, e5, e7, hTp, e8, e3]⟩
        rw [show h - (j + 1) = m by omega]
        exact b8)
    (fun n hq => by
      obtain ⟨id, a1, hn0⟩ := hq
      have hm : h - (h - 1) = 0 + 1 := by omega
      rw [hm] at a1
      obtain ⟨n', hn, hcase⟩ := a1
      obtain rfl := Option.some.inj (hn.symm.trans hn0)
      rcases hcase with ⟨m0, b1, b2, b3⟩ | ⟨m0, -⟩
      · have e4 : (decide ((((List.length n'.2.2.1) : Int) : Int) > (0 : Int))) = false := bK (by rw [b1]; simp)
        refine ⟨_, rfl, ?_⟩
        simp only [mT, e4, cond_false]
        rw [show ((h - 1 + 1 : Nat) : Int) = (h : Int) by omega]
      · exact (Nat.lt_irrefl _ m0).elim) (ns[root]'ht.lt) ⟨root, ht, List.getElem?_eq_getElem ht.lt⟩
  have h1' : xd ((1 : Int), T, ns[root]'ht.lt, ()) = some (.inl ((h : Int), ())) := h1
  simp only [xK, hTp, hTr, e1, h1']
def aqP : List (List UInt8) := ((sz ()).map (·.1)).getD []
def a3i : Bool := match sz () with
  | some (l, ()) => decide (l.length = 66) && l.all fun k => decide (k.length <= 20)
  | none => false
theorem azX : a3i = true := by decide +kernel
theorem a2n : sz () = some (aqP, ()) /\ aqP.length = 66 /\ ∀ k ∈ aqP, k.length <= 20 := by
  have h := azX
  unfold a3i at h
  unfold aqP
  cases e : sz () with
  | none => rw [e] at h; cases h
  | some q =>
    obtain ⟨l, u⟩ := q
    rw [e] at h
    simp only [Bool.and_eq_true, decide_eq_true_eq, List.all_eq_true] at h
    exact ⟨rfl, h.1, h.2⟩
theorem a2X : Ty.eqb af (([] : List UInt8), (([] : List UInt8), ((0 : Int), ()))) (([] : List UInt8), (([] : List UInt8), ((0 : Int), ()))) = true := by decide +kernel
theorem aqL (x : aF) (w : Int) (hx : a2H x) (hw : 0 <= w /\ w < 256) : jO (x, w, ()) = some (true, ()) := by
  obtain ⟨ns, root, h, h1, h2, h3, h4, h5⟩ := a2C x hx
  obtain ⟨K, k1, k2, k3⟩ : ∃ K, sz () = some (K, ()) /\ K.length = 66 /\ ∀ k ∈ K, k.length <= 20 := ⟨_, a2n⟩
  have g4 := a0W ns (shp x.2.2.1) root h ⟨h3, by omega⟩ h2
  have g5 := awA ns (shp x.2.2.1) root h ⟨h3, by omega⟩ h2
  have e0 : IntKind.i64.wrap (Int.tmod w (2 : Int)) = ((w.toNat % 2 : Nat) : Int) := by
    rw [Int.tmod_eq_emod_of_nonneg hw.1, cE (by omega)]
    omega
  obtain ⟨T, hT⟩ : ∃ T : az, ((mk ns (fun _ => 1), ()), (((root : Nat) : Int), (shp x.2.2.1, ()))) = T := ⟨_, rfl⟩
  obtain ⟨r, h6, rfl⟩ := ahn (b := lB) (fun s => (70 - s.2.2.1).toNat)
    (fun s => ∃ i : Nat, s = (true, (h : Int), (i : Int), T, K, ()) /\ i <= 67)
    (fun r => r = .inr (true, (h : Int), T, ()))
    (fun s hi => by
      obtain ⟨i, rfl, i1⟩ := hi
      unfold lB
      simp only
      by_cases hlt : i < K.length
      · left
        have c1 : (decide (((i : Int)) < ((List.length K : Nat) : Int))) = true := aK (by omega)
        have c2 : (decide ((0 : Int) <= (i : Int))) = true := aK (by omega)
        have c3 : List.getD K i ([] : List UInt8) = K[i] := fa hlt
        obtain ⟨p, b, n, g1, g2, g3, g6⟩ := a3K ns (shp x.2.2.1) root h ⟨h3, by omega⟩ h2 K[i] (by have := k3 _ (List.getElem_mem hlt); omega)
        rw [hT] at g1
        have d1 : (decide ((0 : Int) = (0 : Int))) = true := rfl
        have d2 : (decide ((n : Int) < (1 : Int))) = false := bK (by omega)
        have d3 : (decide ((n : Int) > (h : Int))) = false := bK (by omega)
        have d4 : IntKind.i64.wrap ((i : Int) + 2) = ((i + 2 : Nat) : Int) := by rw [cE (by omega)]; omega
        simp only [c1, c2, cond_true, Bool.and_self, Int.toNat_natCast, c3, aof, g1, d1, Bool.not_true, Bool.not_false, d2, d3, d4]
        cases b with
        | false =>
          have := g6.2 rfl
          subst this
          simp only [cond_false, Bool.not_false, cond_true, a2X, Bool.not_true]
          exact ⟨_, rfl, ⟨i + 2, rfl, by omega⟩, by simp; omega⟩
        | true =>
          have := g6.1 rfl
          have d5 : (decide (p.1 = K[i])) = true := aK this
          simp only [cond_false, Bool.not_false, cond_true, Bool.not_true, d5]
          exact ⟨_, rfl, ⟨i + 2, rfl, by omega⟩, by simp; omega⟩
      · right
        have c1 : (decide (((i : Int)) < ((List.length K : Nat) : Int))) = false := bK (by omega)
        simp only [c1, cond_false]
        exact ⟨_, rfl, rfl⟩)
    (true, (h : Int), ((w.toNat % 2 : Nat) : Int), T, K, ()) ⟨w.toNat % 2, rfl, by omega⟩ (by simp; omega)
  have h6' : qT (true, (h : Int), ((w.toNat % 2 : Nat) : Int), T, K, ()) = some (.inr (true, (h : Int), T, ())) := h6
  rw [hT] at g4 g5 h1
  have d6 : (decide ((h : Int) = (h : Int))) = true := aK rfl
  unfold jO
  rw [a33]
  simp only [h1, g4, k1, e0]
  rw [h6']
  simp only [cond_true, g5, decide_true]
end D
/- Plain: the law for whatever comes in. -/
open Go Go.X
namespace D
theorem amG {x : Int} (h : (Lit.int .u8 x).wf = true) : 0 <= x /\ x < 256 := by
  simp [Lit.wf, IntKind.min, IntKind.max, IntKind.signed, IntKind.bits] at h
  omega
abbrev tR3 : Ty := .pair (.int .u8) (.pair (.int .u8) (.pair (.int .u8) .unit))
abbrev tR6 : Ty := .pair (.int .u8) (.pair (.int .u8) (.pair (.int .u8) (.pair (.int .u8) (.pair (.int .u8) (.pair (.int .u8) .unit)))))
abbrev a38 : Ty := .pair (.list tR3) (.pair (.pair (.list tR6) (.pair (.list tR6) (.pair (.list tR6) (.pair (.list tR6) .unit)))) (.pair (.int .u8) .unit))
theorem ay5 {B : Ty -> Nat} (hB : B tR6 = 6) {l : List R5} (h : Ty.good B (.list tR6) l) : (∀ y ∈ l, raw6 y) /\ l.length < 1000000000000000000 := by
  obtain ⟨h1, h2⟩ := h
  refine ⟨fun x hx => ?_, ?_⟩
  · have h := h2 x hx
    exact ⟨amG h.1, amG h.2.1, amG h.2.2.1, amG h.2.2.2.1⟩
  · rw [hB] at h1
    unfold reachBytes at h1
    omega
theorem a3L {B : Ty -> Nat} (hB : B tR3 = 3) {l : List aZ} (h : Ty.good B (.list tR3) l) : (∀ y ∈ l, raw24 y) /\ l.length < 1000000000000000000 := by
  obtain ⟨h1, h2⟩ := h
  refine ⟨fun x hx => ?_, ?_⟩
  · have h := h2 x hx
    exact ⟨amG h.1, amG h.2.1, amG h.2.2.1⟩
  · rw [hB] at h1
    unfold reachBytes at h1
    omega
theorem a4H {B : Ty -> Nat} (h3 : B tR3 = 3) (h6 : B tR6 = 6) {x : aF} (h : Ty.good B a38 x) : a2H x :=
  ⟨⟨ay5 h6 h.2.1.1, ay5 h6 h.2.1.2.1, ay5 h6 h.2.1.2.2.1, ay5 h6 h.2.1.2.2.2.1⟩, a3L h3 h.1, amG h.2.2.1⟩
theorem aur {B : Ty -> Nat} (h3 : B tR3 = 3) (h6 : B tR6 = 6) (y0 : aF) (y1 : Int) (g0 : Ty.good B a38 y0) (g1 : Ty.good B (.int .u8) y1) : jO (y0, y1, ()) = some (true, ()) :=
  aqL y0 y1 (a4H h3 h6 g0) (amG g1)
end D
