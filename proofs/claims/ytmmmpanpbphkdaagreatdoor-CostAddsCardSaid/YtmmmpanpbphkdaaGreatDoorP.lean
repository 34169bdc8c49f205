/- Plain: rules for loops, numbers, and the order of texts. -/
import Derived.Test.YtmmmpanpbphkdaaGreatDoorXC
import Derived.Test.YtmmmpanpbphkdaaGreatDoorD
import Derived.KernelRfl
set_option linter.unusedVariables false
set_option linter.unusedSimpArgs false
set_option maxRecDepth 100000
open Go Go.X
namespace D
theorem av {p : Prop} [Decidable p] (h : p) : decide p = true := decide_eq_true h
theorem aF {p : Prop} [Decidable p] (h : ¬ p) : decide p = false := decide_eq_false h
theorem dK {x : Int} (h : -9223372036854775808 <= x /\ x < 9223372036854775808) : IntKind.i64.wrap x = x := aok h.1 h.2
theorem dzz (i : Nat) : (decide ((0 : Int) <= (i : Int))) = true := av (by omega)
theorem wr1 (i : Nat) (h : i < 4611686018427387904) : IntKind.i64.wrap ((i : Int) + 1) = ((i + 1 : Nat) : Int) := by rw [dK (by omega)]; omega
theorem dlt {α : Type} {l : List α} {i : Nat} (h : i < l.length) : (decide (((i : Nat) : Int) < ((List.length l) : Int))) = true := av (by omega)
theorem dnl {α : Type} (l : List α) : (decide (((l.length : Nat) : Int) < ((List.length l) : Int))) = false := aF (by omega)
theorem aK {α : Type} {l : List α} {i : Nat} {d : α} (h : i < l.length) : List.getD l i d = l[i] := by
  simp [List.getD, h]
theorem aE : ai = 140737488355328 := rfl
def afE {α σ ρ : Type} (step : σ -> α -> σ ⊕ ρ) (fin : σ -> ρ) : List α -> σ -> ρ
  | [], s => fin s
  | a :: l, s => match step s a with
    | .inl t => afE step fin l t
    | .inr r => r
theorem gv : abc = 1000000000000000000000000 := rfl
theorem amT {S ρ σ α : Type} {b : S -> Option (S ⊕ ρ)} (mk : Nat -> σ -> S) (step : σ -> α -> σ ⊕ ρ) (fin : σ -> ρ) (xs : List α) (Inv : Nat -> σ -> Prop) (hlen : xs.length < 1000000000000000000)
    (h1 : ∀ i (hi : i < xs.length) s, Inv i s -> (∃ t, step s xs[i] = .inl t /\ Inv (i + 1) t /\ b (mk i s) = some (.inl (mk (i + 1) t))) \/ (∃ r, step s xs[i] = .inr r /\ b (mk i s) = some (.inr r)))
    (h2 : ∀ s, Inv xs.length s -> b (mk xs.length s) = some (.inr (fin s))) (s : σ) (hs : Inv 0 s) : aR b (mk 0 s) = some (afE step fin xs s) := by
  have key : ∀ (k i : Nat) (s : σ), i + k = xs.length -> Inv i s -> eC b (k + 1) (mk i s) = some (afE step fin (xs.drop i) s) := by
    intro k
    induction k with
    | zero =>
      intro i s hi hv
      have hi : i = xs.length := by omega
      subst hi
      simp only [eC, h2 s hv, List.drop_length, afE]
    | succ k ih =>
      intro i s hi hv
      have hi2 : i < xs.length := by omega
      rw [List.drop_eq_getElem_cons hi2, afE]
      rcases h1 i hi2 s hv with ⟨t, e1, e2, e3⟩ | ⟨r, e1, e2⟩
      · rw [e1]
        simp only [eC, e3]
        exact ih (i + 1) t (by omega) e2
      · rw [e1]
        simp only [eC, e2]
  exact ia (n := xs.length + 1) (by rw [gv]; omega) (key xs.length 0 s (by omega) hs)
theorem aU {S ρ σ : Type} {b : S -> Option (S ⊕ ρ)} (mk : Nat -> σ -> S) (N : Nat) (Inv : Nat -> σ -> Prop) (Q : ρ -> Prop) (hlen : N < 1000000000000000000)
    (h1 : ∀ i, i < N -> ∀ s, Inv i s -> (∃ t, Inv (i + 1) t /\ b (mk i s) = some (.inl (mk (i + 1) t))) \/ (∃ r, Q r /\ b (mk i s) = some (.inr r)))
    (h2 : ∀ s, Inv N s -> ∃ r, Q r /\ b (mk N s) = some (.inr r)) (s : σ) (hs : Inv 0 s) : ∃ r, aR b (mk 0 s) = some r /\ Q r := by
  have key : ∀ (k i : Nat) (s : σ), i + k = N -> Inv i s -> ∃ r, eC b (k + 1) (mk i s) = some r /\ Q r := by
    intro k
    induction k with
    | zero =>
      intro i s hi hv
      have hi : i = N := by omega
      subst hi
      obtain ⟨r, q, e⟩ := h2 s hv
      exact ⟨r, by simp only [eC, e], q⟩
    | succ k ih =>
      intro i s hi hv
      rcases h1 i (by omega) s hv with ⟨t, e2, e3⟩ | ⟨r, e1, e2⟩
      · obtain ⟨r, e, q⟩ := ih (i + 1) t (by omega) e2
        exact ⟨r, by simp only [eC, e3]; exact e, q⟩
      · exact ⟨r, by simp only [eC, e2], e1⟩
  obtain ⟨r, e, q⟩ := key N 0 s (by omega) hs
  exact ⟨r, ia (n := N + 1) (by rw [gv]; omega) e, q⟩
theorem bq {α : Type} {l : List α} {i : Nat} (h : i < l.length) : l.take (i + 1) = l.take i ++ [l[i]] := by
  rw [List.take_add_one, List.getElem?_eq_getElem h]; rfl
abbrev blt := Op.bytesLess
theorem cl : ∀ a, Op.bytesLess a a = false
  | [] => rfl
  | a :: x => by simp [Op.bytesLess, cl x]
theorem bR : ∀ {a b c}, Op.bytesLess a b = true -> Op.bytesLess b c = true -> Op.bytesLess a c = true
  | [], [], _, h, _ => by simp [Op.bytesLess] at h
  | _ :: _, [], _, h, _ => by simp [Op.bytesLess] at h
  | _, _ :: _, [], _, h => by simp [Op.bytesLess] at h
  | [], _ :: _, _ :: _, _, _ => rfl
  | a :: x, b :: y, c :: z, h, g => by
    simp only [Op.bytesLess, Bool.or_eq_true, decide_eq_true_eq, Bool.and_eq_true, beq_iff_eq] at h g ⊢
    rcases h with h | ⟨rfl, h⟩
    · rcases g with g | ⟨rfl, g⟩
      · exact .inl (UInt8.lt_trans h g)
      · exact .inl h
    · rcases g with g | ⟨rfl, g⟩
      · exact .inl g
      · exact .inr ⟨rfl, bR h g⟩
theorem dC : ∀ a b, Op.bytesLess a b = true \/ a = b \/ Op.bytesLess b a = true
  | [], [] => .inr (.inl rfl)
  | [], _ :: _ => .inl rfl
  | _ :: _, [] => .inr (.inr rfl)
  | a :: x, b :: y => by
    simp only [Op.bytesLess, Bool.or_eq_true, decide_eq_true_eq, Bool.and_eq_true, beq_iff_eq, List.cons.injEq]
    rcases UInt8.lt_or_lt_of_ne (a := a) (b := b) |> fun h => (Decidable.em (a = b)).elim (fun e => Or.inl e) (fun e => Or.inr (h e)) with h | h | h
    · subst h
      rcases dC x y with h | h | h
      · exact .inl (.inr ⟨rfl, h⟩)
      · exact .inr (.inl ⟨rfl, h⟩)
      · exact .inr (.inr (.inr ⟨rfl, h⟩))
    · exact .inl (.inl h)
    · exact .inr (.inr (.inl h))
theorem iO {a b} (h : Op.bytesLess a b = true) : Op.bytesLess b a = false := by
  cases hb : Op.bytesLess b a
  · rfl
  · have := bR h hb
    rw [cl] at this
    cases this
theorem oA {a b} (h : Op.bytesLess a b = true) : a ≠ b := by
  rintro rfl
  rw [cl] at h
  cases h
theorem ahk {S ρ : Type} {b : S -> Option (S ⊕ ρ)} (μ : S -> Nat) (Inv : S -> Prop) (Q : ρ -> Prop)
    (h : ∀ s, Inv s -> (∃ t, b s = some (.inl t) /\ Inv t /\ μ t < μ s) \/ (∃ r, b s = some (.inr r) /\ Q r)) (s : S) (hs : Inv s) (hm : μ s < 100000000000000000000) : ∃ r, aR b s = some r /\ Q r := by
  have key : ∀ n s, μ s < n -> Inv s -> ∃ r, eC b n s = some r /\ Q r := by
    intro n
    induction n with
    | zero => intro s h; omega
    | succ n ih =>
      intro s hn hi
      rcases h s hi with ⟨t, e, it, lt⟩ | ⟨r, e, q⟩
      · obtain ⟨r, e2, q⟩ := ih t (by omega) it
        exact ⟨r, by simp only [eC, e, e2], q⟩
      · exact ⟨r, by simp only [eC, e], q⟩
  obtain ⟨r, e, q⟩ := key (μ s + 1) s (by omega) hs
  exact ⟨r, ia (n := μ s + 1) (by rw [gv]; omega) e, q⟩
section
variable {α : Type} (key : α -> List UInt8)
def Srt (l : List α) : Prop := l.Pairwise fun a b => Op.bytesLess (key a) (key b) = true
def lbK (k : List UInt8) : List α -> Nat
  | [] => 0
  | a :: l => if Op.bytesLess (key a) k = true then lbK k l + 1 else 0
def lW (x : α) : List α -> List α
  | [] => [x]
  | a :: l => if Op.bytesLess (key x) (key a) = true then x :: a :: l else a :: lW x l
def woK (k : List UInt8) (l : List α) : List α := l.filter fun a => !decide (key a = k)
variable {key}
theorem Srt.tail {a : α} {l : List α} (h : Srt key (a :: l)) : Srt key l := (List.pairwise_cons.1 h).2
theorem Srt.head {a : α} {l : List α} (h : Srt key (a :: l)) : ∀ b ∈ l, Op.bytesLess (key a) (key b) = true := (List.pairwise_cons.1 h).1
theorem uB (k : List UInt8) : ∀ l : List α, lbK key k l <= l.length
  | [] => Nat.le_refl _
  | a :: l => by
    unfold lbK
    split
    · have := uB k l; simp; omega
    · simp
theorem aks (k : List UInt8) : ∀ (l : List α) (i : Nat) (h : i < l.length), i < lbK key k l -> Op.bytesLess (key l[i]) k = true
  | [], i, h, _ => by simp at h
  | a :: l, i, h, hi => by
    unfold lbK at hi
    split at hi
    · rename_i ha
      cases i with
      | zero => exact ha
      | succ i => exact aks k l i (by simpa using h) (by omega)
    · omega
theorem akr (k : List UInt8) : ∀ (l : List α), Srt key l -> ∀ (i : Nat) (h : i < l.length), lbK key k l <= i -> Op.bytesLess (key l[i]) k = false
  | [], _, i, h, _ => by simp at h
  | a :: l, hs, i, h, hi => by
    unfold lbK at hi
    split at hi
    · rename_i ha
      cases i with
      | zero => omega
      | succ i => exact akr k l hs.tail i (by simpa using h) (by omega)
    · rename_i ha
      have ha : Op.bytesLess (key a) k = false := by simpa using ha
      cases i with
      | zero => exact ha
      | succ i =>
        have hl : i < l.length := by simpa using h
        have h1 := hs.head l[i] (List.getElem_mem hl)
        cases hb : Op.bytesLess (key (a :: l)[i + 1]) k
        · rfl
        · have := bR h1 hb
          rw [ha] at this; cases this
theorem aeQ (k : List UInt8) (l : List α) (hs : Srt key l) (i : Nat) (hi : i <= l.length) (h1 : ∀ (m : Nat) (h : m < l.length), m < i -> Op.bytesLess (key l[m]) k = true) (h2 : ∀ (m : Nat) (h : m < l.length), i <= m -> Op.bytesLess (key l[m]) k = false) : i = lbK key k l := by
  have hl := uB (key := key) k l
  rcases Nat.lt_trichotomy i (lbK key k l) with h | h | h
  · have a := h2 i (by omega) (Nat.le_refl _)
    have b := aks (key := key) k l i (by omega) h
    rw [a] at b; cases b
  · exact h
  · have a := h1 (lbK key k l) (by omega) h
    have b := akr k l hs (lbK key k l) (by omega) (Nat.le_refl _)
    rw [a] at b; cases b
def kd (k : List UInt8) (l : List α) : Bool := l.any fun a => decide (key a = k)
theorem alf (k : List UInt8) : ∀ (l : List α), Srt key l -> ∀ (h : lbK key k l < l.length), kd (key := key) k l = decide (key l[lbK key k l] = k)
  | [], _, h => by simp at h
  | a :: l, hs, h => by
    unfold lbK at h ⊢
    split
    · rename_i ha
      rw [if_pos ha] at h
      have hne : key a ≠ k := oA ha
      have := alf k l hs.tail (by simpa using h)
      simp only [kd, List.any_cons, decide_eq_false hne, Bool.false_or]
      exact this
    · rename_i ha
      simp only [kd, List.any_cons, List.getElem_cons_zero]
      by_cases hk : key a = k
      · simp [hk]
      · have : (l.any fun a => decide (key a = k)) = false := by
          rw [List.any_eq_false]
          intro b hb
          have h1 := hs.head b hb
          simp only [decide_eq_true_eq]
          intro hbk
          rw [hbk] at h1
          exact ha h1
        rw [this]; simp [hk]
theorem aeI (k : List UInt8) : ∀ (l : List α), lbK key k l = l.length -> kd (key := key) k l = false
  | [], _ => rfl
  | a :: l, h => by
    unfold lbK at h
    split at h
    · rename_i ha
      have hne : key a ≠ k := oA ha
      have := aeI k l (by simpa using h)
      simp only [kd, List.any_cons, decide_eq_false hne, Bool.false_or]
      exact this
    · simp at h
theorem abS (k : List UInt8) (l : List α) (h : kd (key := key) k l = false) : woK key k l = l := by
  unfold woK
  rw [List.filter_eq_self]
  intro a ha
  unfold kd at h
  rw [List.any_eq_false] at h
  simpa using h a ha
theorem amP {x : α} : ∀ (l : List α), Srt key l -> kd (key := key) (key x) l = false -> l.take (lbK key (key x) l) ++ [x] ++ l.drop (lbK key (key x) l) = lW key x l
  | [], _, _ => rfl
  | a :: l, hs, hn => by
    unfold lbK lW
    simp only [kd, List.any_cons, Bool.or_eq_false_iff, decide_eq_false_iff_not] at hn
    have hne : key a ≠ key x := hn.1
    rcases dC (key a) (key x) with h | h | h
    · rw [if_pos h, if_neg (by rw [iO h]; simp)]
      have := amP l hs.tail hn.2
      simp only [List.take_succ_cons, List.drop_succ_cons, List.cons_append]
      rw [this]
    · exact absurd h hne
    · rw [if_pos h, if_neg (by rw [iO h]; simp)]
      simp
theorem aoP {k : List UInt8} {l : List α} (h : ∀ b ∈ l, Op.bytesLess k (key b) = true) : woK key k l = l := by
  unfold woK
  rw [List.filter_eq_self]
  intro a ha
  have := oA (h a ha)
  simp only [Bool.not_eq_true', decide_eq_false_iff_not]
  exact fun e => this e.symm
theorem anV {x : α} {l : List α} (h : ∀ b ∈ l, Op.bytesLess (key x) (key b) = true) : lW key x l = x :: l := by
  cases l with
  | nil => rfl
  | cons a l => unfold lW; rw [if_pos (h a (by simp))]
theorem ans {x : α} : ∀ (l : List α), Srt key l -> kd (key := key) (key x) l = true -> l.set (lbK key (key x) l) x = lW key x (woK key (key x) l)
  | [], _, hn => by simp [kd] at hn
  | a :: l, hs, hn => by
    unfold lbK
    rcases dC (key a) (key x) with h | h | h
    · have hne : key a ≠ key x := oA h
      simp only [kd, List.any_cons, decide_eq_false hne, Bool.false_or] at hn
      have := ans l hs.tail hn
      rw [if_pos h, List.set_cons_succ, this]
      have e : woK key (key x) (a :: l) = a :: woK key (key x) l := by simp [woK, hne]
      rw [e]
      conv => rhs; unfold lW
      rw [if_neg (by rw [iO h]; simp)]
    · have hlt : ∀ b ∈ l, Op.bytesLess (key x) (key b) = true := fun b hb => by rw [<- h]; exact hs.head b hb
      rw [if_neg (by rw [h, cl]; simp), List.set_cons_zero]
      have e : woK key (key x) (a :: l) = woK key (key x) l := by simp [woK, h]
      rw [e, aoP hlt, anV hlt]
    · exfalso
      have hne : key a ≠ key x := fun e => oA h e.symm
      simp only [kd, List.any_cons, decide_eq_false hne, Bool.false_or, List.any_eq_true, decide_eq_true_eq] at hn
      obtain ⟨b, hb, e⟩ := hn
      have h1 := bR h (hs.head b hb)
      rw [e, cl] at h1
      cases h1
theorem abn {x b : α} : ∀ {l : List α}, b ∈ lW key x l ↔ b = x \/ b ∈ l
  | [] => by simp [lW]
  | a :: l => by
    unfold lW
    split
    · simp
    · simp only [List.mem_cons, abn (l := l)]
      constructor
      · rintro (h | h | h)
        · exact .inr (.inl h)
        · exact .inl h
        · exact .inr (.inr h)
      · rintro (h | h | h)
        · exact .inr (.inl h)
        · exact .inl h
        · exact .inr (.inr h)
theorem abf {x : α} : ∀ (l : List α), (lW key x l).length = l.length + 1
  | [] => rfl
  | a :: l => by
    unfold lW
    split
    · rfl
    · simp [abf l]
theorem Srt.ins {x : α} : ∀ {l : List α}, Srt key l -> kd (key := key) (key x) l = false -> Srt key (lW key x l)
  | [], _, _ => by simp [lW, Srt]
  | a :: l, hs, hn => by
    simp only [kd, List.any_cons, Bool.or_eq_false_iff, decide_eq_false_iff_not] at hn
    unfold lW
    split
    · rename_i h
      refine List.pairwise_cons.2 ⟨fun b hb => ?_, hs⟩
      rcases List.mem_cons.1 hb with rfl | hb
      · exact h
      · exact bR h (hs.head b hb)
    · rename_i h
      have h2 : Op.bytesLess (key a) (key x) = true := by
        rcases dC (key a) (key x) with h3 | h3 | h3
        · exact h3
        · exact absurd h3 hn.1
        · exact absurd h3 h
      refine List.pairwise_cons.2 ⟨fun b hb => ?_, Srt.ins hs.tail hn.2⟩
      rcases abn.1 hb with rfl | hb
      · exact h2
      · exact hs.head b hb
theorem Srt.wo {k : List UInt8} {l : List α} (h : Srt key l) : Srt key (woK key k l) := List.Pairwise.filter _ h
theorem anT (k : List UInt8) (l : List α) : kd (key := key) k (woK key k l) = false := by
  unfold kd woK
  rw [List.any_eq_false]
  intro a ha
  have := (List.mem_filter.1 ha).2
  simpa using this
theorem aoQ {k : List UInt8} (l : List α) : (woK key k l).length <= l.length := List.length_filter_le _ _
end
open Go
open Go
theorem aj6 : uA () = some (true, ()) := by kernel_rfl
theorem ajx {p : List aj} {i : Nat} (h : i < p.length) : lz ((p, ()), (i : Int), ()) = some (p[i].1, ()) := by
  have h1 : (decide (((i : Nat) : Int) >= 0)) = true := av (by omega)
  have h2 : (decide (((i : Nat) : Int) < (List.length p : Int))) = true := av (by omega)
  have h3 := dzz i
  simp only [lz, h1, h2, h3, cond_true, Bool.and_self, Int.toNat_natCast, aK h]
theorem afg {p : List aj} {i : Nat} (h : i < p.length) (hu : p[i].1 = true) (hl : p[i].2.1 = false) : eV ((p, ()), (i : Int), ()) = some (p[i].2.2.2.1, 0, ()) := by
  have h2 : (decide (((i : Nat) : Int) < (List.length p : Int))) = true := av (by omega)
  have h3 := dzz i
  simp only [eV, ajx h, hu, hl, h2, h3, cond_true, cond_false, Bool.not_true, Bool.and_self, Int.toNat_natCast, aK h]
theorem aaz {p : List aj} {i : Nat} (h : i < p.length) : nl ((p, ()), (i : Int), ()) = some (p[i].1, ()) := by
  have h1 : (decide (((i : Nat) : Int) >= 0)) = true := av (by omega)
  have h2 : (decide (((i : Nat) : Int) < (List.length p : Int))) = true := av (by omega)
  have h3 := dzz i
  simp only [nl, h1, h2, h3, cond_true, Bool.and_self, Int.toNat_natCast, aK h]
theorem aj0 {p : List aj} {i : Nat} (h : i < p.length) : nJ ((i : Int), p, ()) = some (p[i].1, p, ()) := by
  have h1 : (decide (((i : Nat) : Int) >= 0)) = true := av (by omega)
  have h2 : (decide (((i : Nat) : Int) < (List.length p : Int))) = true := av (by omega)
  have h3 := dzz i
  simp only [nJ, h1, h2, h3, cond_true, Bool.and_self, Int.toNat_natCast, aK h]
theorem ame {p : List aj} {i : Nat} (h : i < p.length) (hu : p[i].1 = true) (hl : p[i].2.1 = false) : pF ((p, ()), (i : Int), ()) = some (p[i].2.2.2.1, 0, ()) := by
  have h2 : (decide (((i : Nat) : Int) < (List.length p : Int))) = true := av (by omega)
  have h3 := dzz i
  simp only [pF, aaz h, hu, hl, h2, h3, cond_true, cond_false, Bool.not_true, Bool.and_self, Int.toNat_natCast, aK h]
def mk (ns : List api_Node) (r : Nat -> Int) : List aj := ns.mapIdx fun i n => (true, false, r i, n, ())
theorem dP (ns : List api_Node) (r : Nat -> Int) : (mk ns r).length = ns.length := by simp [mk]
theorem iE {ns : List api_Node} {r : Nat -> Int} {i : Nat} (h : i < (mk ns r).length) : (mk ns r)[i] = (true, false, r i, ns[i]'(by rw [<- dP ns r]; exact h), ()) := by simp [mk]
theorem rG {ns : List api_Node} {r : Nat -> Int} {i : Nat} (h : i < ns.length) (d : aj) : List.getD (mk ns r) i d = (true, false, r i, ns[i], ()) := by
  rw [aK (by rw [dP]; exact h), iE]
theorem ahV {ns : List api_Node} {r : Nat -> Int} {i : Nat} (h : i < ns.length) (v : Int) : (mk ns r).set i (true, false, v, ns[i], ()) = mk ns (fun j => if j = i then v else r j) := by
  apply List.ext_getElem
  · simp [mk]
  · intro j h1 h2
    rw [iE, List.getElem_set]
    split
    · rename_i e; subst e; simp
    · rename_i e
      rw [iE]
      simp [Ne.symm e]
theorem lZ {ns : List api_Node} {r r' : Nat -> Int} (h : ∀ i, i < ns.length -> r i = r' i) : mk ns r = mk ns r' := by
  apply List.ext_getElem
  · simp [mk]
  · intro j h1 h2
    rw [iE, iE, h j (by rw [<- dP ns r]; exact h1)]
theorem alk (ns : List api_Node) (n : api_Node) (r : Nat -> Int) : mk ns r ++ [(true, false, r ns.length, n, ())] = mk (ns ++ [n]) r := by
  simp [mk, List.mapIdx_append]
theorem nV {ns : List api_Node} {r : Nat -> Int} {i : Nat} (h : i < ns.length) : eV ((mk ns r, ()), (i : Int), ()) = some (ns[i], 0, ()) := by
  have h' : i < (mk ns r).length := by rw [dP]; exact h
  rw [afg h' (by rw [iE]) (by rw [iE]), iE]
theorem aeX {ns : List api_Node} {r : Nat -> Int} {i : Nat} (h : i < ns.length) : pF ((mk ns r, ()), (i : Int), ()) = some (ns[i], 0, ()) := by
  have h' : i < (mk ns r).length := by rw [dP]; exact h
  rw [ame h' (by rw [iE]) (by rw [iE]), iE]
theorem aha {p : List aj} (h : p.length <= 100000) : mz ((p, ()), ()) = some (p, ()) := by
  have h1 : (decide ((List.length ([] : List (aj)) + List.length p) * 136 <= ai)) = true := av (by rw [aE]; simp; omega)
  simp only [mz, h1, cond_true, List.nil_append]
def kidsI (ks : List Nat) : List Int := ks.map fun (k : Nat) => (k : Int)
theorem bi (ks : List Nat) : (kidsI ks).length = ks.length := by simp [kidsI]
theorem iD {ks : List Nat} {i : Nat} (h : i < ks.length) : List.getD (kidsI ks) i 0 = ((ks[i] : Nat) : Int) := by
  rw [aK (by rw [bi]; exact h)]
  simp [kidsI]
theorem aoy {ns : List api_Node} {r : Nat -> Int} {n : api_Node} {ks : List Nat} (hk : n.2.2.1 = kidsI ks) (hr : ∀ k ∈ ks, k < ns.length) (hl : ks.length <= 1000) :
    uX (0, (mk ns r, ()), n, [], 0, 0, ()) = some (.inr ((mk ns r, ()), n, [], 0, 0, ())) := by
  obtain ⟨z, h1, h2⟩ := aU (b := mt) (fun i (_ : Unit) => ((i : Int), (mk ns r, ()), n, [], 0, 0, ())) ks.length (fun _ _ => True) (fun z => z = .inr ((mk ns r, ()), n, [], 0, 0, ())) (by omega)
    (fun i hi _ _ => by
      left
      refine ⟨(), trivial, ?_⟩
      have e1 : (decide (((i : Nat) : Int) < ((List.length n.2.2.1) : Int))) = true := av (by rw [hk, bi]; omega)
      have e2 := dzz i
      have e3 := wr1 i (by omega)
      have hi' : ks[i] < (mk ns r).length := by rw [dP]; exact hr _ (List.getElem_mem hi)
      have e7 : List.getD n.2.2.1 i 0 = ((ks[i] : Nat) : Int) := by rw [hk, iD hi]
      simp only [mt, e1, e2, cond_true, Bool.and_self, Int.toNat_natCast, e7, aaz hi', iE, Bool.not_true, cond_false, e3])
    (fun _ _ => by
      have e1 : (decide (((ks.length : Nat) : Int) < ((List.length n.2.2.1) : Int))) = false := aF (by rw [hk, bi]; omega)
      exact ⟨_, rfl, by simp only [mt, e1, cond_false]⟩) () trivial
  subst h2
  exact h1
theorem aoz {ns : List api_Node} {r : Nat -> Int} {n : api_Node} (hl : ns.length <= 1000) :
    uY (0, (mk ns r, ()), n, [], 0, 0, ()) = some (.inl ((ns.length : Int), (mk ns r, ()), n, [], 0, 0, ())) := by
  obtain ⟨z, h1, h2⟩ := aU (b := mu) (fun i (_ : Unit) => ((i : Int), (mk ns r, ()), n, [], 0, 0, ())) ns.length (fun _ _ => True) (fun z => z = .inl ((ns.length : Int), (mk ns r, ()), n, [], 0, 0, ())) (by omega)
    (fun i hi _ _ => by
      left
      refine ⟨(), trivial, ?_⟩
      have e1 : (decide (((i : Nat) : Int) < ((List.length (mk ns r)) : Int))) = true := av (by rw [dP]; omega)
      have e2 := dzz i
      have e3 := wr1 i (by omega)
      simp only [mu, e1, e2, cond_true, Bool.and_self, Int.toNat_natCast, rG hi, e3])
    (fun _ _ => by
      have e1 : (decide (((ns.length : Nat) : Int) < ((List.length (mk ns r)) : Int))) = false := aF (by rw [dP]; omega)
      exact ⟨_, rfl, by simp only [mu, e1, cond_false]⟩) () trivial
  subst h2
  exact h1
theorem ao0 {ns : List api_Node} {n : api_Node} {ks : List Nat} {c : Int} (hk : n.2.2.1 = kidsI ks) (hr : ∀ k ∈ ks, k < ns.length) (hn : ks.Nodup) (hl : ks.length <= 1000) :
    uZ (c, 0, n, [], 0, 0, mk ns (fun _ => 1), ()) = some (.inl (c, [], 0, 0, mk ns (fun j => if j ∈ ks then 2 else 1), ())) := by
  obtain ⟨z, h1, h2⟩ := aU (b := mw) (fun i (l : List aj) => (c, (i : Int), n, [], 0, 0, l, ())) ks.length (fun i l => l = mk ns (fun j => if j ∈ ks.take i then 2 else 1)) (fun z => z = .inl (c, [], 0, 0, mk ns (fun j => if j ∈ ks then 2 else 1), ())) (by omega)
    (fun i hi l hl => by
      left
      subst hl
      refine ⟨_, rfl, ?_⟩
      have hik : ks[i] < ns.length := hr _ (List.getElem_mem hi)
      have e1 : (decide (((i : Nat) : Int) < ((List.length n.2.2.1) : Int))) = true := av (by rw [hk, bi]; omega)
      have e2 := dzz i
      have e3 := wr1 i (by omega)
      have e4 : (decide ((0 : Int) <= ((ks[i] : Nat) : Int))) = true := av (by omega)
      have e5 : ∀ r, (decide (((ks[i] : Nat) : Int) < (List.length (mk ns r) : Int))) = true := fun r => av (by rw [dP]; omega)
      have hnot : ks[i] ∉ ks.take i := fun hm => by
        have h2 := bq hi
        have hnd : (ks.take (i + 1)).Nodup := hn.sublist (List.take_sublist _ _)
        rw [h2, List.nodup_append] at hnd
        exact hnd.2.2 _ hm _ (by simp) rfl
      have e7 : List.getD n.2.2.1 i 0 = ((ks[i] : Nat) : Int) := by rw [hk, iD hi]
      simp only [mw, e1, e2, cond_true, Bool.and_self, Int.toNat_natCast, e7, e4, e5, rG hik, e3, if_neg hnot]
      have e6 : IntKind.i64.wrap ((1 : Int) + 1) = 2 := by rw [dK (by omega)]; omega
      have e8 : mk ns (fun j => if j = ks[i] then 2 else if j ∈ ks.take i then 2 else 1) = mk ns (fun j => if j ∈ ks.take (i + 1) then 2 else 1) := lZ fun j _ => by
        have hm : j ∈ ks.take (i + 1) ↔ (j ∈ ks.take i \/ j = ks[i]) := by rw [bq hi, List.mem_append, List.mem_singleton]
        by_cases hj : j = ks[i]
        · rw [if_pos hj, if_pos (hm.2 (.inr hj))]
        · rw [if_neg hj]
          by_cases h2 : j ∈ ks.take i
          · rw [if_pos h2, if_pos (hm.2 (.inl h2))]
          · rw [if_neg h2, if_neg (fun h => (hm.1 h).elim h2 hj)]
      rw [e6, ahV hik, e8])
    (fun l hl => by
      subst hl
      have e1 : (decide (((ks.length : Nat) : Int) < ((List.length n.2.2.1) : Int))) = false := aF (by rw [hk, bi]; omega)
      exact ⟨_, rfl, by simp only [mw, e1, cond_false, List.take_length]⟩) (mk ns (fun _ => 1)) (lZ fun j _ => by simp)
  subst h2
  exact h1
theorem amv {ns : List api_Node} {n : api_Node} {ks : List Nat} (hk : n.2.2.1 = kidsI ks) (hr : ∀ k ∈ ks, k < ns.length) (hn : ks.Nodup) (hl : ks.length <= 1000) (hnl : ns.length <= 900) :
    nk ((mk ns (fun _ => 1), ()), n, ()) = some (((mk (ns ++ [n]) (fun j => if j ∈ ks then 2 else 1), ()), ((ns.length : Int), (0, ()))), ()) := by
  have e1 : (decide (((ns.length : Nat) : Int) >= 4096)) = false := aF (by omega)
  have hlen : (mk ns (fun _ => 1)).length = ns.length := dP _ _
  have e2 : (decide (((ns.length : Nat) : Int) = ((List.length (mk ns (fun _ => 1))) : Int))) = true := av (by rw [hlen])
  have e3 : ∀ d : aj, (decide ((List.length (mk ns (fun _ => 1)) + List.length ([d] : List (aj))) * 136 <= ai)) = true := fun d => av (by rw [hlen, aE]; simp; omega)
  have e4 : (decide ((0 : Int) <= ((ns.length : Nat) : Int))) = true := av (by omega)
  have e5 : ∀ d : aj, (decide (((ns.length : Nat) : Int) < (List.length (mk ns (fun _ => 1) ++ [d]) : Int))) = true := fun d => av (by simp [hlen]; omega)
  have e6 : ∀ d : aj, List.set (mk ns (fun _ => 1) ++ [d]) ns.length (true, false, 1, n, ()) = mk (ns ++ [n]) (fun _ => 1) := fun d => by
    rw [<- alk, <- hlen, List.set_append_right _ _ (Nat.le_refl _)]
    simp
  have h2 := ao0 (ns := ns ++ [n]) (n := n) (ks := ks) (c := (ns.length : Int)) hk (fun k hk => by have := hr k hk; simp; omega) hn hl
  simp only [nk, aoy hk hr hl, aoz (show ns.length <= 1000 by omega), e1, cond_false, aha (show (mk ns (fun _ => 1)).length <= 100000 by omega), e2, e3, cond_true, uW, e4, e5, Bool.and_self, Int.toNat_natCast, e6, h2]
theorem anN {ns : List api_Node} {r : Nat -> Int} {k : Nat} (hk : k < ns.length) (hr : r k = 2) :
    sJ ([(k : Int)], [], mk ns r, ()) = some (.inl ([], mk ns (fun j => if j = k then 1 else r j), ())) := by
  obtain ⟨z, h1, h2⟩ := aU (b := kw) (fun i (q : List Int × List aj) => (q.1, [], q.2, ())) 1 (fun i q => (i = 0 /\ q = ([(k : Int)], mk ns r)) \/ (i = 1 /\ q = ([], mk ns (fun j => if j = k then 1 else r j))))
    (fun z => z = .inl ([], mk ns (fun j => if j = k then 1 else r j), ())) (by omega)
    (fun i hi q hq => by
      left
      obtain ⟨rfl, rfl⟩ := hq.resolve_right (by omega)
      refine ⟨_, .inr ⟨rfl, rfl⟩, ?_⟩
      have hk' : k < (mk ns r).length := by rw [dP]; exact hk
      have e1 := dzz k
      have e2 : ∀ r', (decide ((k : Int) < (List.length (mk ns r') : Int))) = true := fun r' => av (by rw [dP]; omega)
      have e3 : IntKind.i64.wrap ((2 : Int) - 1) = 1 := by rw [dK (by omega)]; omega
      have e4 : List.drop (Int.toNat (1 : Int)) (List.take (Int.toNat (List.length [(k : Int)] : Int)) [(k : Int)]) = [] := rfl
      have e5 : List.getD [(k : Int)] 0 0 = (k : Int) := rfl
      have e6 : (decide ((((List.length [(k : Int)]) : Int) : Int) > (0 : Int))) = true := rfl
      have e7 : (decide (((0 : Int) : Int) < (List.length [(k : Int)] : Int))) = true := rfl
      have e8 : (decide (((1 : Int) : Int) <= (List.length [(k : Int)] : Int)) && decide (((List.length [(k : Int)] : Int) : Int) <= (List.length [(k : Int)] : Int))) = true := rfl
      have e9 : (decide ((1 : Int) = (0 : Int))) = false := rfl
      simp only [kw, e6, e7, e8, cond_true, e4, e5, aj0 hk', iE, Bool.not_true, cond_false, e1, e2, Bool.and_self, Int.toNat_natCast, rG hk, hr, e3, ahV hk, if_true, e9]
      rfl)
    (fun q hq => by
      obtain ⟨-, rfl⟩ := hq.resolve_left (by omega)
      have e6 : (decide ((((List.length ([] : List Int)) : Int) : Int) > (0 : Int))) = false := rfl
      exact ⟨_, rfl, by simp only [kw, e6, cond_false]⟩) ([(k : Int)], mk ns r) (.inl ⟨rfl, rfl⟩)
  subst h2
  exact h1
theorem anO {ns : List api_Node} {r : Nat -> Int} {k : Nat} (hk : k < ns.length) (hr : r k = 2) (hl : ns.length <= 1000) :
    qY ((mk ns r, ()), (k : Int), ()) = some ((mk ns (fun j => if j = k then 1 else r j), ()), 0, ()) := by
  have hk' : k < (mk ns r).length := by rw [dP]; exact hk
  simp only [qY, aaz hk', iE, Bool.not_true, cond_false, aha (show (mk ns r).length <= 100000 by rw [dP]; omega), anN hk hr]
def er (s : ac) (k : List UInt8) : Bool := !(Op.bytesLess k s.1) && (decide (s.2.1 = []) || Op.bytesLess k s.2.1)
theorem amG (s : ac) (k : List UInt8) : tN (s, k, ()) = some (er s k, ()) := by
  simp only [tN, er]
  cases h1 : Op.bytesLess k s.1
  · cases h2 : decide (s.2.1 = [])
    · simp [h2]
    · simp [h2]
  · simp
def inS (s : ac) (t : List aa) : List aa := t.filter fun p => er s p.1
theorem adY (s : ac) (t : List aa) : (inS s t).length <= t.length := List.length_filter_le _ _
theorem ank (t : List aa) (s : ac) (hl : t.length <= 1000000) : oc (t, s, ()) = some (inS s t, ()) := by
  obtain ⟨z, h1, h2⟩ := aU (b := ju) (fun i (out : List aa) => (t, (i : Int), s, out, ())) t.length (fun i out => out = inS s (t.take i)) (fun z => z = .inl (inS s t, ())) (by omega)
    (fun i hi out ho => by
      left
      subst ho
      refine ⟨_, rfl, ?_⟩
      have e1 := dlt (i := i) (l := t) (by omega)
      have e2 := dzz i
      have e3 := wr1 i (by omega)
      have e4 : ∀ p : aa, (decide ((List.length (inS s (t.take i)) + List.length ([p] : List (aa))) * 40 <= ai)) = true := fun p => av (by
        have := adY s (t.take i)
        rw [aE]
        simp at this ⊢
        omega)
      have e5 : inS s (t.take (i + 1)) = inS s (t.take i) ++ (bif er s t[i].1 then [t[i]] else []) := by
        rw [bq hi]
        unfold inS
        rw [List.filter_append]
        cases h : er s t[i].1 <;> simp [h]
      rw [e5]
      simp only [ju, e1, e2, cond_true, Bool.and_self, Int.toNat_natCast, aK hi, amG]
      cases h : er s t[i].1
      · simp only [cond_false, e3, List.append_nil]
      · simp only [cond_true, e3, e4])
    (fun out ho => by
      subst ho
      have e1 := dnl t
      exact ⟨_, rfl, by simp only [ju, e1, cond_false, List.take_length]⟩) [] rfl
  subst h2
  have h1' : qS (t, 0, s, [], ()) = some (.inl (inS s t, ())) := h1
  simp only [oc, h1']
def aar (p : aa) (t : List aa) : List aa := t.filter fun x => !decide (x.1 = p.1)
def ins (p : aa) : List aa -> List aa
  | [] => [p]
  | x :: t => bif Op.bytesLess x.1 p.1 then x :: ins p t else p :: aar p (x :: t)
abbrev aoS := (Bool × aa × List aa × Unit) ⊕ Unit
def ama (p : aa) (s : Bool × List aa) (x : aa) : (Bool × List aa) ⊕ aoS :=
  let i := s.1 || !(Op.bytesLess x.1 p.1)
  let o := bif !s.1 && !(Op.bytesLess x.1 p.1) then s.2 ++ [p] else s.2
  .inl (i, bif !decide (x.1 = p.1) then o ++ [x] else o)
def alZ (p : aa) (s : Bool × List aa) : aoS := .inl (s.1, p, s.2, ())
theorem aho (p : aa) : ∀ (t out : List aa), afE (ama p) (alZ p) t (true, out) = .inl (true, p, out ++ aar p t, ())
  | [], out => by simp [afE, aar, alZ]
  | x :: t, out => by
    simp only [afE, ama, Bool.true_or, Bool.not_true, Bool.false_and, cond_false]
    rw [aho p t]
    by_cases h : x.1 = p.1 <;> simp [aar, h]
theorem afi (p : aa) : ∀ (t out : List aa), ∃ b o, afE (ama p) (alZ p) t (false, out) = .inl (b, p, o, ()) /\ (bif b then o else o ++ [p]) = out ++ ins p t
  | [], out => ⟨false, out, rfl, rfl⟩
  | x :: t, out => by
    simp only [afE, ama, Bool.false_or, Bool.not_false, Bool.true_and]
    cases h : Op.bytesLess x.1 p.1
    · simp only [Bool.not_false, cond_true]
      rw [aho]
      refine ⟨_, _, rfl, ?_⟩
      have e : ins p (x :: t) = p :: aar p (x :: t) := by simp only [ins, h, cond_false]
      rw [e]
      by_cases h2 : x.1 = p.1 <;> simp [aar, h2]
    · have h2 : x.1 ≠ p.1 := oA h
      simp only [Bool.not_true, cond_false, h2, decide_false, Bool.not_false, cond_true]
      obtain ⟨b, o, e1, e2⟩ := afi p t (out ++ [x])
      refine ⟨b, o, e1, ?_⟩
      rw [e2]
      simp [ins, h]
theorem ak2 (p : aa) (t : List aa) : (aar p t).length <= t.length := List.length_filter_le _ _
theorem ahO (p : aa) : ∀ t, (ins p t).length <= t.length + 1
  | [] => by simp [ins]
  | x :: t => by
    have h1 := ahO p t
    have h2 := ak2 p (x :: t)
    cases h : Op.bytesLess x.1 p.1 <;> simp [ins, h] at h2 ⊢ <;> omega
theorem anj (t : List aa) (p : aa) (hl : t.length < 1000000) : yx (t, p, ()) = some (ins p t, ()) := by
  have hloop : uR (t, false, (0 : Int), p, ([] : List aa), ()) = some (afE (ama p) (alZ p) t (false, [])) := by
    have := amT (b := mf) (fun I (s : Bool × List aa) => (t, s.1, (I : Int), p, s.2, ())) (ama p) (alZ p) t (fun I s => s.2.length <= I + (if s.1 then 1 else 0)) (by omega) (fun I h s hs => by
        obtain ⟨i, out⟩ := s
        have ho : out.length <= I + 1 := by simp only at hs; split at hs <;> omega
        left
        refine ⟨_, rfl, ?_, ?_⟩
        · cases i <;> cases hb : Op.bytesLess t[I].1 p.1 <;> by_cases hk : t[I].1 = p.1 <;> simp [hb, hk] at hs ⊢ <;> omega
        · simp -implicitDefEqProofs (disch := omega) only [mf, oL, oM, av, aF, dK, aK, cond_true, cond_false, Bool.and_self, Int.toNat_natCast, aE, List.length_cons, List.length_nil, List.length_append, Int.natCast_add, Int.cast_ofNat_Int]
          cases i <;> cases hb : Op.bytesLess t[I].1 p.1 <;> by_cases hk : t[I].1 = p.1 <;> simp -implicitDefEqProofs (disch := omega) [hb, hk, av]) (fun s hs => by
        unfold mf
        simp -implicitDefEqProofs (disch := omega) only [av, aF, cond_true, cond_false, alZ]) (false, []) (by simp)
    exact this
  obtain ⟨b, o, e1, e2⟩ := afi p t []
  unfold yx
  simp only [hloop, e1]
  simp only [List.nil_append] at e2
  have hlen := ahO p t
  cases b
  · simp only [cond_false] at e2
    have : o.length + 1 <= t.length + 1 := by rw [<- e2] at hlen; simpa using hlen
    simp -implicitDefEqProofs (disch := omega) only [Bool.not_false, cond_true, av, aE, List.length_cons, List.length_nil, e2]
  · simp only [cond_true] at e2
    simp only [Bool.not_true, cond_false, e2]
def oT (n : Int) : List UInt8 := ((pD (n, ())).map (·.1)).getD []
def ajc (n : Nat) : Bool := match pD ((n : Int), ()) with
  | some (k, _) => decide (k.length <= 11) && decide (1 <= k.length)
  | none => false
theorem alO : ∀ n : Fin 256, ajc n.val = true := by decide +kernel
theorem aao (n : Int) (h0 : 0 <= n) (h1 : n < 256) : pD (n, ()) = some (oT n, ()) /\ (oT n).length <= 11 /\ 1 <= (oT n).length := by
  obtain ⟨m, rfl⟩ := Int.eq_ofNat_of_zero_le h0
  have := alO ⟨m, by omega⟩
  unfold ajc at this
  unfold oT
  simp only at this
  cases h : pD ((m : Int), ()) with
  | none => simp [h] at this
  | some x =>
    obtain ⟨k, u⟩ := x
    simp [h] at this
    simp
    omega
def anB (n : Int) : List UInt8 := List.getD [[], [118], [119, 120], [120, 121, 122]] (n % 4).toNat []
def oJ (x : aT) : aa := (oT x.1, anB x.2.1, x.2.2.1 % 4, ())
def raw24 (x : aT) : Prop := (0 <= x.1 /\ x.1 < 256) /\ (0 <= x.2.1 /\ x.2.1 < 256) /\ (0 <= x.2.2.1 /\ x.2.2.1 < 256)
theorem alW (x : aT) (h : raw24 x) : uQ (x, ()) = some (oJ x, ()) := by
  obtain ⟨a, b, c, u⟩ := x
  obtain ⟨h1, h2, h3⟩ := h
  simp only at h1 h2 h3
  obtain ⟨k1, k2, k3⟩ := aao a h1.1 h1.2
  have e1 : Int.tmod b 4 = b % 4 := Int.tmod_eq_emod_of_nonneg h2.1
  have e2 : Int.tmod c 4 = c % 4 := Int.tmod_eq_emod_of_nonneg h3.1
  unfold uQ
  simp -implicitDefEqProofs (disch := omega) only [k1, e1, e2, dK, av, Bool.and_self, cond_true, List.length_cons, List.length_nil]
  rfl
def sc (l : List aT) : List aa := l.foldl (fun t x => ins (oJ x) t) []
theorem acH (l : List aT) : (sc l).length <= l.length := by
  have key : ∀ (l : List aT) (t : List aa), (l.foldl (fun t x => ins (oJ x) t) t).length <= t.length + l.length := by
    intro l
    induction l with
    | nil => intro t; simp
    | cons x l ih =>
      intro t
      have h1 := ih (ins (oJ x) t)
      have h2 := ahO (oJ x) t
      simp only [List.foldl_cons, List.length_cons]
      omega
  have := key l []
  simp only [List.length_nil, Nat.zero_add] at this
  exact this
theorem alQ (l : List aT) (h : ∀ x ∈ l, raw24 x) (hl : l.length < 1000000000000000000) : qR (l, ()) = some (sc (l.take 40), ()) := by
  have hloop : nH (l, (0 : Int), ([] : List aa), ()) = some (.inl (sc (l.take 40), ())) := by
    obtain ⟨r, h1, h2⟩ := aU (b := iQ) (fun I (t : List aa) => (l, (I : Int), t, ())) (min l.length 40) (fun I t => t = sc (l.take I)) (fun r => r = .inl (sc (l.take 40), ())) (by omega) (fun I hI t ht => by
        left
        have hI2 : I < l.length := by omega
        refine ⟨ins (oJ l[I]) t, ?_, ?_⟩
        · show _ = sc _
          rw [List.take_add_one, List.getElem?_eq_getElem hI2, ht]
          simp only [sc, Option.toList_some, List.foldl_append, List.foldl_cons, List.foldl_nil]
        · have hlen : t.length <= 40 := by
            rw [ht]
            have := acH (l.take I)
            simp only [List.length_take] at this
            omega
          have hp := alW l[I] (h _ (List.getElem_mem _))
          have hq := anj t (oJ l[I]) (by omega)
          simp -implicitDefEqProofs (disch := omega) only [iQ, ic, av, aF, dK, aK, cond_true, cond_false, Bool.and_self, Int.toNat_natCast, hp, hq, Int.natCast_add, Int.cast_ofNat_Int]) (fun t ht => by
        refine ⟨.inl (t, ()), ?_, ?_⟩
        · simp only [Sum.inl.injEq, Prod.mk.injEq, and_true]
          rw [ht]
          congr 1
          rcases Nat.le_total l.length 40 with h | h
          · rw [Nat.min_eq_left h, List.take_of_length_le h, List.take_length]
          · rw [Nat.min_eq_right h]
        · rcases Nat.lt_or_ge (min l.length 40) l.length with h | h
          · simp -implicitDefEqProofs (disch := omega) only [iQ, ic, av, aF, cond_true, cond_false]
          · simp -implicitDefEqProofs (disch := omega) only [iQ, ic, av, aF, cond_true, cond_false]) [] (by simp [sc])
    have h3 : nH (l, (0 : Int), [], ()) = some r := h1
    rw [h3, h2]
  unfold qR
  simp only [hloop]
def PlOK (k : List UInt8) : Prop := (jq (k, ())).isSome = true
structure MOK (m : ae) : Prop where
  kind : 1 <= m.1 /\ m.1 <= 6
  key : m.1 = 1 \/ m.1 = 2 -> PlOK m.2.1
  alike : m.1 = 4 \/ m.1 = 5 -> (ref10_Alike (m.2.2.2.2.1, m.2.2.2.2.2.1, ())).isSome = true
theorem aka {p : aa} (h : PlOK p.1) : ∃ c, pu (p, ()) = some c := by
  obtain ⟨r, hr⟩ := Option.isSome_iff_exists.1 h
  simp only [pu, hr]
  cases (!decide ((r.2.1 : Int) = (0 : Int)))
  · cases decide ((r.1.2.1 : Int) = (1 : Int))
    · cases decide ((r.1.2.1 : Int) = (2 : Int))
      · cases decide ((r.1.2.1 : Int) = (3 : Int)) <;> exact ⟨_, rfl⟩
      · exact ⟨_, rfl⟩
    · exact ⟨_, rfl⟩
  · exact ⟨_, rfl⟩
theorem amr (l : List aa) (h : ∀ p ∈ l, PlOK p.1) (hl : l.length <= 1000000) : ∃ c, rR (l, ()) = some c := by
  obtain ⟨z, h1, h2⟩ := aU (b := jt) (fun i (q : Int × Int) => (l, (i : Int), 0, 0, q.1, q.2, ())) l.length (fun _ _ => True) (fun z => ∃ x, z = .inl x) (by omega)
    (fun i hi q _ => by
      left
      obtain ⟨c, hc⟩ := aka (h l[i] (List.getElem_mem hi))
      have e1 := dlt (i := i) (l := l) (by omega)
      have e2 := dzz i
      have e3 := wr1 i (by omega)
      exact ⟨(IntKind.i64.wrap (q.1 + c.1.1), IntKind.i64.wrap (q.2 + c.1.2.1)), trivial, by simp only [jt, e1, e2, cond_true, Bool.and_self, Int.toNat_natCast, aK hi, hc, e3]⟩)
    (fun q _ => by
      have e1 := dnl l
      exact ⟨_, ⟨_, rfl⟩, by simp only [jt, e1, cond_false]; rfl⟩) (0, 0) trivial
  obtain ⟨x, rfl⟩ := h2
  have h1' : qQ (l, 0, 0, 0, 0, 0, ()) = some (.inl x) := h1
  exact ⟨_, by simp only [rR, h1']; rfl⟩
theorem ahc {k : List UInt8} (h : PlOK k) : ∃ c, kv (k, ()) = some c := by
  obtain ⟨r, hr⟩ := Option.isSome_iff_exists.1 h
  simp only [kv, hr]
  cases decide ((r.2.1 : Int) = (0 : Int)) <;> exact ⟨_, rfl⟩
theorem ajZ (s : api_Sum) {m : ae} (h : MOK m) : ∃ c, px (s, m, ()) = some c := by
  simp only [px, jP, od]
  by_cases h1 : m.1 = 1
  · obtain ⟨e, he⟩ := ahc (h.key (.inl h1))
    simp only [av h1, cond_true, he]
    cases e.1 <;> exact ⟨_, rfl⟩
  · by_cases h2 : m.1 = 2
    · obtain ⟨e, he⟩ := ahc (h.key (.inr h2))
      simp only [aF h1, cond_false, av h2, cond_true, he]
      cases e.1 <;> exact ⟨_, rfl⟩
    · by_cases h6 : m.1 = 6
      · simp only [aF h1, aF h2, cond_false, av h6, cond_true]
        exact ⟨_, rfl⟩
      · by_cases h3 : m.1 = 3
        · simp only [aF h1, aF h2, aF h6, cond_false, av h3, cond_true]
          exact ⟨_, rfl⟩
        · obtain ⟨a, ha⟩ := Option.isSome_iff_exists.1 (h.alike (by have := h.kind; omega))
          simp only [aF h1, aF h2, aF h6, aF h3, cond_false, ha]
          cases a.1
          · exact ⟨_, rfl⟩
          · cases decide ((m.1 : Int) = (5 : Int)) <;> exact ⟨_, rfl⟩
theorem an0 {n : api_Node} (h0 : n.2.2.1 = []) (h : ∀ p ∈ n.1, PlOK p.1) (hl : n.1.length <= 1000000) : ∃ s, iS (n, ()) = some s := by
  obtain ⟨c, hc⟩ := amr n.1 h hl
  have e1 : (decide ((((List.length n.2.2.1) : Int) : Int) = (0 : Int))) = true := by rw [h0]; rfl
  simp only [iS, e1, cond_true, hc, xA]
  exact ⟨_, rfl⟩
theorem amm {n : api_Node} (h0 : n.2.2.1 ≠ []) (hs : n.2.2.2.1.length <= 1000000) (h : ∀ m ∈ n.2.2.2.2.1, MOK m) (hl : n.2.2.2.2.1.length <= 1000000) : ∃ s, iS (n, ()) = some s := by
  have e0 : (decide ((((List.length n.2.2.1) : Int) : Int) = (0 : Int))) = false := aF (by
    have := List.length_pos_iff.2 h0
    omega)
  obtain ⟨z, h1, x, rfl⟩ := aU (b := mq) (fun i (q : api_Sum) => ((i : Int), n, 0, 0, 0, 0, q, ())) n.2.2.2.1.length (fun _ _ => True) (fun z => ∃ x : api_Sum, z = .inl (n, 0, 0, 0, 0, x, ())) (by omega)
    (fun i hi q _ => by
      left
      have e1 : (decide (((i : Nat) : Int) < ((List.length n.2.2.2.1) : Int))) = true := av (by omega)
      have e2 := dzz i
      have e3 := wr1 i (by omega)
      simp only [mq, e1, e2, cond_true, Bool.and_self, Int.toNat_natCast, aK hi, e3, aay]
      exact ⟨_, trivial, rfl⟩)
    (fun q _ => by
      have e1 : (decide (((n.2.2.2.1.length : Nat) : Int) < ((List.length n.2.2.2.1) : Int))) = false := aF (by omega)
      exact ⟨_, ⟨q, rfl⟩, by simp only [mq, e1, cond_false]⟩) (((0 : Int), ((0 : Int), ())), (((0 : Int), ((0 : Int), ())), ())) trivial
  have h1' : uU (0, n, 0, 0, 0, 0, (((0 : Int), ((0 : Int), ())), (((0 : Int), ((0 : Int), ())), ())), ()) = some (.inl (n, 0, 0, 0, 0, x, ())) := h1
  obtain ⟨z, h2, y, rfl⟩ := aU (b := mr) (fun i (q : api_Sum) => ((i : Int), n, 0, 0, 0, 0, q, ())) n.2.2.2.2.1.length (fun _ _ => True) (fun z => ∃ x, z = .inl x) (by omega)
    (fun i hi q _ => by
      left
      obtain ⟨c, hc⟩ := ajZ q (h n.2.2.2.2.1[i] (List.getElem_mem hi))
      have e1 : (decide (((i : Nat) : Int) < ((List.length n.2.2.2.2.1) : Int))) = true := av (by omega)
      have e2 := dzz i
      have e3 := wr1 i (by omega)
      exact ⟨c.1, trivial, by simp only [mr, e1, e2, cond_true, Bool.and_self, Int.toNat_natCast, aK hi, hc, e3]⟩)
    (fun q _ => by
      have e1 : (decide (((n.2.2.2.2.1.length : Nat) : Int) < ((List.length n.2.2.2.2.1) : Int))) = false := aF (by omega)
      exact ⟨_, ⟨_, rfl⟩, by simp only [mr, e1, cond_false]; rfl⟩) x trivial
  have h2' : uV (0, n, 0, 0, 0, 0, x, ()) = some (.inl y) := h2
  exact ⟨_, by simp only [iS, e0, cond_false, h1', h2']; rfl⟩
def six : List (List UInt8) := [[97, 47], [98, 47], [97, 47, 98, 47], [99, 47], [100, 47], []]
def spanOK (s : ac) : Prop := s.2.1 = [] \/ Op.bytesLess s.1 s.2.1 = true
def bgn (k p : List UInt8) : Bool := decide (p.length <= k.length) && decide (k.take p.length = p)
theorem ace (k p : List UInt8) : iF (k, p, ()) = some (bgn k p, ()) := by
  unfold iF bgn
  by_cases h : p.length <= k.length
  · have c1 : ((k.length : Int) >= (p.length : Int)) := by omega
    have c2 : ((0 : Int) <= (p.length : Int)) := by omega
    have c3 : ((p.length : Int) <= (k.length : Int)) := by omega
    simp only [c1, c2, c3, av, cond_true, Bool.and_self, Int.toNat_natCast, List.drop_zero, h, Bool.true_and]
  · have c1 : ¬ ((k.length : Int) >= (p.length : Int)) := by omega
    simp only [c1, aF h, aF, cond_false, not_false_eq_true, Bool.false_and]
def preS (p : List UInt8) : ac := (p, (if p = [] then [] else p.dropLast ++ [48]), ())
theorem alo : ∀ (q k : List UInt8), (!Op.bytesLess k (q ++ [47]) && Op.bytesLess k (q ++ [48])) = bgn k (q ++ [47])
  | [], [] => by decide
  | [], x :: k => by
    show (!(decide (x < 47) || (x == 47 && Op.bytesLess k [])) && (decide (x < 48) || (x == 48 && Op.bytesLess k []))) = bgn (x :: k) [47]
    have e : Op.bytesLess k [] = false := by cases k <;> rfl
    rw [e]
    unfold bgn
    simp only [Bool.and_false, Bool.or_false, List.length_cons, List.length_nil, List.take_succ_cons, List.take_zero]
    have h1 : decide (0 + 1 <= k.length + 1) = true := av (by omega)
    rw [h1, Bool.true_and]
    have h2 : ∀ x : UInt8, (!decide (x < 47) && decide (x < 48)) = decide (x = 47) := by
      intro x
      rw [Bool.eq_iff_iff]
      simp only [Bool.and_eq_true, Bool.not_eq_true', decide_eq_false_iff_not, decide_eq_true_eq, UInt8.lt_iff_toNat_lt, <- UInt8.toNat_inj]
      show (¬ x.toNat < 47 /\ x.toNat < 48) ↔ x.toNat = 47
      omega
    rw [h2]
    congr 1
    simp
  | d :: q, [] => by
    show (!Op.bytesLess [] (d :: (q ++ [47])) && _) = bgn [] (d :: (q ++ [47]))
    unfold bgn
    simp [Op.bytesLess]
  | d :: q, x :: k => by
    have ih := alo q k
    show (!(decide (x < d) || (x == d && Op.bytesLess k (q ++ [47]))) && (decide (x < d) || (x == d && Op.bytesLess k (q ++ [48])))) = bgn (x :: k) (d :: (q ++ [47]))
    have hb : bgn (x :: k) (d :: (q ++ [47])) = (decide (x = d) && bgn k (q ++ [47])) := by
      unfold bgn
      simp only [List.length_cons, List.take_succ_cons, List.cons.injEq, Nat.add_le_add_iff_right, Bool.decide_and]
      cases decide ((q ++ [47]).length <= k.length) <;> simp
    rw [hb, <- ih]
    by_cases h1 : x = d
    · subst h1
      simp
    · have h3 : (x == d) = false := by simpa using h1
      simp only [h3, Bool.false_and, Bool.or_false, aF h1]
      cases decide (x < d) <;> rfl
theorem kK : ∀ p ∈ six, span_Prefix (p, ()) = some (preS p, ()) /\ ref02_Prefix (p, ()) = some (preS p, ()) /\ (p = [] \/ p = p.dropLast ++ [47]) := by
  have h : six.all (fun p => decide (span_Prefix (p, ()) = some (preS p, ())) && (decide (ref02_Prefix (p, ()) = some (preS p, ())) && (decide (p = []) || decide (p = p.dropLast ++ [47])))) = true := by kernel_rfl
  intro p hp
  have h2 := List.all_eq_true.1 h p hp
  simp only [Bool.and_eq_true, Bool.or_eq_true, decide_eq_true_eq] at h2
  exact h2
theorem aed {p : List UInt8} (h : p = [] \/ p = p.dropLast ++ [47]) (k : List UInt8) : er (preS p) k = bgn k p := by
  unfold er preS
  by_cases hp : p = []
  · subst hp
    cases k <;> simp [bgn, Op.bytesLess]
  · have h := h.resolve_left hp
    have := alo p.dropLast k
    rw [<- h] at this
    rw [if_neg hp, <- this]
    have hn : ¬ (p.dropLast ++ [48] = []) := by simp
    simp only [aF hn, Bool.false_or]
theorem ak8 {p : List UInt8} (h : p = [] \/ p = p.dropLast ++ [47]) : spanOK (preS p) := by
  unfold spanOK preS
  by_cases hp : p = []
  · left; simp [hp]
  · right
    have h := h.resolve_left hp
    simp only [if_neg hp]
    have : ∀ q : List UInt8, Op.bytesLess (q ++ [47]) (q ++ [48]) = true := by
      intro q
      induction q with
      | nil => decide
      | cons a q ih => simp [Op.bytesLess, ih]
    conv => lhs; arg 1; rw [h]
    exact this _
def keys20 : List (List UInt8) := [[97, 47], [98, 47], [97, 47, 98, 47], [99, 47]].flatMap fun p => [[1], [2, 0, 0], [2, 0, 1], [2, 0, 2], [3, 120]].map fun s => p ++ s
theorem ajd (n : Int) (h : 0 <= n /\ n < 256) : ∃ k ∈ keys20, pE (n, ()) = some (k, ()) := by
  obtain ⟨k, rfl⟩ := Int.eq_ofNat_of_zero_le h.1
  have hk : k < 256 := by omega
  have hc : (List.range 256).all (fun k => match pE ((k : Int), ()) with | some (p, ()) => keys20.contains p | none => false) = true := by kernel_rfl
  have := List.all_eq_true.1 hc k (List.mem_range.2 hk)
  cases hp : pE ((k : Int), ()) with
  | none => rw [hp] at this; cases this
  | some r =>
    obtain ⟨p, u⟩ := r
    rw [hp] at this
    exact ⟨p, by simpa using this, rfl⟩
theorem akM (n : Int) (h : 0 <= n /\ n < 256) : ∃ v : List UInt8, v.length <= 10 /\ jx (n, ()) = some (v, ()) := by
  obtain ⟨k, rfl⟩ := Int.eq_ofNat_of_zero_le h.1
  have hk : k < 256 := by omega
  have hc : (List.range 256).all (fun k => match jx ((k : Int), ()) with | some (p, ()) => decide (p.length <= 10) | none => false) = true := by kernel_rfl
  have := List.all_eq_true.1 hc k (List.mem_range.2 hk)
  cases hp : jx ((k : Int), ()) with
  | none => rw [hp] at this; cases this
  | some r =>
    obtain ⟨p, u⟩ := r
    rw [hp] at this
    exact ⟨p, by simpa using this, rfl⟩
def paths5 : List (List UInt8) := [[97, 47], [98, 47], [97, 47, 98, 47], [99, 47], [100, 47]]
theorem afa (n : Int) (h : 0 <= n /\ n < 256) : ∃ p ∈ paths5, gH (n, ()) = some (p, ()) := by
  obtain ⟨k, rfl⟩ := Int.eq_ofNat_of_zero_le h.1
  have hk : k < 256 := by omega
  have hc : (List.range 256).all (fun k => match gH ((k : Int), ()) with | some (p, ()) => paths5.contains p | none => false) = true := by kernel_rfl
  have := List.all_eq_true.1 hc k (List.mem_range.2 hk)
  cases hp : gH ((k : Int), ()) with
  | none => rw [hp] at this; cases this
  | some r =>
    obtain ⟨p, u⟩ := r
    rw [hp] at this
    exact ⟨p, by simpa using this, rfl⟩
theorem fD : ∀ p ∈ paths5, p ∈ six := by
  intro p hp
  simp only [paths5, six, List.mem_cons, List.mem_nil_iff, or_false] at hp ⊢
  rcases hp with h | h | h | h | h <;> simp [h]
def acL (a b : List UInt8) : List UInt8 := bif bgn a b || bgn b a then (bif decide (a = [100, 47]) then [99, 47] else [100, 47]) else b
theorem aoj : ∀ a ∈ paths5, ∀ b ∈ paths5, acL a b ∈ paths5 /\ bgn a (acL a b) = false /\ bgn (acL a b) a = false := by
  have h : paths5.all (fun a => paths5.all fun b => paths5.contains (acL a b) && (!bgn a (acL a b) && !bgn (acL a b) a)) = true := by kernel_rfl
  intro a ha b hb
  have := List.all_eq_true.1 (List.all_eq_true.1 h a ha) b hb
  simpa using this
abbrev R5 : Type := (Int) × (Int) × (Int) × (Int) × (Int) × (Int) × Unit
def cH (a : Int) (k v f t : List UInt8) (s : ac) (n : Int) : ae :=
  bif decide (a = 0) then (1, k, v, ([], [], ()), [], [], n, ())
  else bif decide (a = 1) then (2, k, [], ([], [], ()), [], [], 0, ())
  else bif decide (a = 2) then (3, [], [], s, [], [], 0, ())
  else bif decide (a = 3) then (4, [], [], ([], [], ()), f, t, 0, ())
  else bif decide (a = 4) then (5, [], [], ([], [], ()), f, t, 0, ())
  else (6, [], [], s, [], [], n, ())
theorem ao2 (k f t v : List UInt8) (x : R5) (s : ac) (hv : jx (x.2.2.1, ()) = some (v, ())) :
    dq (k, f, t, x, (0 : Int), [], [], [], [], [], [], (0 : Int), s, ()) = some (.inl (cH (Int.tmod x.1 6) k v f t s (IntKind.i64.wrap (Int.tmod x.2.2.2.2.2.1 8)))) := by
  unfold dq cH
  simp only [hv]
  cases decide (Int.tmod x.1 6 = 0) <;> cases decide (Int.tmod x.1 6 = 1) <;> cases decide (Int.tmod x.1 6 = 2) <;> cases decide (Int.tmod x.1 6 = 3) <;> cases decide (Int.tmod x.1 6 = 4) <;> rfl
theorem ao1 (k f t v : List UInt8) (x : R5) (s : ac) (hv : jx (x.2.2.1, ()) = some (v, ())) (hf : gH (x.2.1, ()) = some (f, ())) (ht : gH (x.2.2.2.1, ()) = some (t, ())) :
    bP (k, x, (0 : Int), [], [], [], [], [], [], (0 : Int), s, ()) = some (.inl (cH (Int.tmod x.1 6) k v f (acL f t) s (IntKind.i64.wrap (Int.tmod x.2.2.2.2.2.1 8)))) := by
  unfold bP cn acL
  simp only [hf, ht, ace]
  cases bgn f t <;> cases bgn t f <;> cases decide (f = [100, 47]) <;> simp only [Bool.not_true, Bool.not_false, cond_true, cond_false, Bool.or_true, Bool.or_false, Bool.true_or, Bool.false_or, ao2 k _ _ v x s hv]
structure MsgOK (m : ae) : Prop where
  kind : m.1 = 1 \/ m.1 = 2 \/ m.1 = 3 \/ m.1 = 4 \/ m.1 = 5 \/ m.1 = 6
  key : m.1 = 1 \/ m.1 = 2 -> m.2.1 ∈ keys20
  val : m.1 = 1 -> m.2.2.1.length <= 10
  span : m.1 = 3 \/ m.1 = 6 -> spanOK m.2.2.2.1
  from_ : m.1 = 4 \/ m.1 = 5 -> m.2.2.2.2.1 ∈ paths5
  to_ : m.1 = 4 \/ m.1 = 5 -> m.2.2.2.2.2.1 ∈ paths5
  apart : m.1 = 4 \/ m.1 = 5 -> bgn m.2.2.2.2.1 m.2.2.2.2.2.1 = false /\ bgn m.2.2.2.2.2.1 m.2.2.2.2.1 = false
theorem akq (a : Int) (k v f t : List UInt8) (s : ac) (n : Int) (hk : k ∈ keys20) (hv : v.length <= 10) (hf : f ∈ paths5) (ht : t ∈ paths5) (hs : spanOK s) (h1 : bgn f t = false) (h2 : bgn t f = false) : MsgOK (cH a k v f t s n) := by
  unfold cH
  cases decide (a = 0) with
  | true => exact ⟨by simp, fun _ => hk, fun _ => hv, (by simp), (by simp), (by simp), (by simp)⟩
  | false =>
    cases decide (a = 1) with
    | true => exact ⟨by simp, fun _ => hk, (by simp), (by simp), (by simp), (by simp), (by simp)⟩
    | false =>
      cases decide (a = 2) with
      | true => exact ⟨by simp, (by simp), (by simp), fun _ => hs, (by simp), (by simp), (by simp)⟩
      | false =>
        cases decide (a = 3) with
        | true => exact ⟨by simp, (by simp), (by simp), (by simp), fun _ => hf, fun _ => ht, fun _ => ⟨h1, h2⟩⟩
        | false =>
          cases decide (a = 4) with
          | true => exact ⟨by simp, (by simp), (by simp), (by simp), fun _ => hf, fun _ => ht, fun _ => ⟨h1, h2⟩⟩
          | false => exact ⟨by simp, (by simp), (by simp), fun _ => hs, (by simp), (by simp), (by simp)⟩
def raw6 (x : R5) : Prop := (0 <= x.1 /\ x.1 < 256) /\ (0 <= x.2.1 /\ x.2.1 < 256) /\ (0 <= x.2.2.1 /\ x.2.2.1 < 256) /\ (0 <= x.2.2.2.1 /\ x.2.2.2.1 < 256)
theorem amZ (k : List UInt8) : Op.bytesLess k (k ++ [0]) = true := by
  induction k with
  | nil => rfl
  | cons a k ih => simp [Op.bytesLess, ih]
theorem ak6 : ∀ k ∈ keys20, PlOK k := by
  have h : keys20.all (fun k => (jq (k, ())).isSome) = true := by kernel_rfl
  exact fun k hk => List.all_eq_true.1 h k hk
theorem aiD : ∀ a ∈ paths5, ∀ b ∈ paths5, (ref10_Alike (a, b, ())).isSome = true := by
  have h : paths5.all (fun a => paths5.all fun b => (ref10_Alike (a, b, ())).isSome) = true := by kernel_rfl
  exact fun a ha b hb => List.all_eq_true.1 (List.all_eq_true.1 h a ha) b hb
theorem MsgOK.mok {m : ae} (h : MsgOK m) : MOK m :=
  ⟨by have := h.kind; omega, fun hk => ak6 _ (h.key hk), fun hk => aiD _ (h.from_ hk) _ (h.to_ hk)⟩
theorem aji (a b : List UInt8) : ∃ r, kT (a, b, ()) = some (r, ()) := by
  simp only [kT]
  cases (!decide (a = ([] : List UInt8)))
  · exact ⟨_, rfl⟩
  · cases (!decide (b = ([] : List UInt8))) <;> exact ⟨_, rfl⟩
theorem acq (s : ac) : ∃ r, gC (s, ()) = some (r, ()) := by
  simp only [gC]
  cases (!decide (s.2.1 = ([] : List UInt8))) <;> exact ⟨_, rfl⟩
theorem ajm (a b c d : List UInt8) : ∃ r, iP (a, b, c, d, ()) = some (r, ()) := by
  obtain ⟨e, he⟩ := acq (c, d, ())
  simp only [iP, he, uP]
  cases e <;> exact ⟨_, rfl⟩
theorem ajn (a b : ac) : ∃ r, jr (a, b, ()) = some (r, ()) := by
  obtain ⟨l, hl⟩ := aji b.2.1 a.2.1
  simp only [jr, hl]
  cases l <;> simp only [cond_true, cond_false] <;> exact ajm _ _ _ _
theorem akd (a b : ac) : ∃ r, pq (a, b, ()) = some (r, ()) := by
  obtain ⟨e, he⟩ := acq b
  obtain ⟨f, hf⟩ := acq a
  obtain ⟨l, hl⟩ := aji a.2.1 b.2.1
  simp only [pq, he, hf, hl]
  cases e <;> cases f <;> cases (Op.bytesLess a.1 b.1 || decide ((a.1 : List UInt8) = b.1)) <;> exact ⟨_, rfl⟩
theorem alX (s : ac) (ps : List (List UInt8)) (hl : ps.length <= 100000) : ∃ l, l7 (s, ps, ()) = some (l, ()) /\ l.length = ps.length + 1 := by
  obtain ⟨z, h1, q, rfl, hq⟩ := aU (b := js) (fun i (q : List UInt8 × List ac) => (ps, q.1, (i : Int), s, q.2, ())) ps.length (fun i q => q.2.length = i) (fun z => ∃ q : List UInt8 × List ac, z = .inl (q.1, s, q.2, ()) /\ q.2.length = ps.length) (by omega)
    (fun i hi q hq => by
      left
      have e1 := dlt (i := i) (l := ps) (by omega)
      have e2 := dzz i
      have e3 := wr1 i (by omega)
      obtain ⟨r, hr⟩ := ajn s (q.1, (ps[i], ()))
      have e5 : ∀ x : ac, (decide ((List.length q.2 + List.length ([x] : List (ac))) * 32 <= ai)) = true := fun x => av (by rw [hq, aE]; simp; omega)
      exact ⟨(ps[i], q.2 ++ [r]), by simp [hq], by simp only [js, e1, e2, cond_true, Bool.and_self, Int.toNat_natCast, aK hi, hr, e5, e3]⟩)
    (fun q hq => by
      have e1 := dnl ps
      exact ⟨_, ⟨q, rfl, hq⟩, by simp only [js, e1, cond_false]⟩) (([] : List UInt8), ([] : List ac)) rfl
  have h1' : qP (ps, [], 0, s, [], ()) = some (.inl (q.1, s, q.2, ())) := h1
  obtain ⟨r, hr⟩ := ajn s (q.1, (([] : List UInt8), ()))
  have e5 : ∀ x : ac, (decide ((List.length q.2 + List.length ([x] : List (ac))) * 32 <= ai)) = true := fun x => av (by rw [hq, aE]; simp; omega)
  exact ⟨q.2 ++ [r], by simp only [l7, h1', hr, e5, cond_true], by simp [hq]⟩
theorem qL {p : List UInt8} (h : p ∈ paths5) : ∃ r, ref02_Prefix (p, ()) = some (r, ()) := ⟨_, (kK p (fD p h)).2.1⟩
theorem aln {k : List UInt8} (h : k ∈ keys20) : ∃ r, gh (k, ()) = some (r, ()) := by
  have hlen : keys20.all (fun k => decide (k.length < 100)) = true := by kernel_rfl
  have := of_decide_eq_true (List.all_eq_true.1 hlen k h)
  have : k.length + ([0] : List UInt8).length <= ai := by rw [aE]; simp; omega
  simp only [gh, this, av, cond_true]
  exact ⟨_, rfl⟩
theorem amc {m : ae} (h : MsgOK m) : ∃ l, ej (m, ()) = some (l, ()) /\ l.length <= 2 := by
  simp only [ej, dr]
  by_cases h4 : m.1 = 4
  · obtain ⟨r, hr⟩ := qL (h.from_ (.inl h4))
    simp only [av h4, cond_true, hr]
    exact ⟨_, rfl, by simp⟩
  · by_cases h5 : m.1 = 5
    · obtain ⟨r, hr⟩ := qL (h.from_ (.inr h5))
      simp only [aF h4, av h5, cond_true, cond_false, hr]
      exact ⟨_, rfl, by simp⟩
    · simp only [aF h4, aF h5, cond_false]
      cases decide (m.1 = 6) <;> exact ⟨_, rfl, by simp⟩
theorem akO {m : ae} (h : MsgOK m) : ∃ l, bj (m, ()) = some (l, ()) /\ l.length <= 2 := by
  simp only [bj, bt]
  by_cases h1 : m.1 = 1
  · obtain ⟨r, hr⟩ := aln (h.key (.inl h1))
    simp only [av h1, cond_true, hr]
    exact ⟨_, rfl, by simp⟩
  · by_cases h2 : m.1 = 2
    · obtain ⟨r, hr⟩ := aln (h.key (.inr h2))
      simp only [aF h1, av h2, cond_true, cond_false, hr]
      exact ⟨_, rfl, by simp⟩
    · by_cases h4 : m.1 = 4
      · obtain ⟨r, hr⟩ := qL (h.from_ (.inl h4))
        obtain ⟨t, ht⟩ := qL (h.to_ (.inl h4))
        simp only [aF h1, aF h2, av h4, cond_true, cond_false, hr, ht]
        exact ⟨_, rfl, by simp⟩
      · by_cases h5 : m.1 = 5
        · obtain ⟨t, ht⟩ := qL (h.to_ (.inr h5))
          simp only [aF h1, aF h2, aF h4, av h5, cond_true, cond_false, ht]
          exact ⟨_, rfl, by simp⟩
        · simp only [aF h1, aF h2, aF h4, aF h5, cond_false]
          exact ⟨_, rfl, by simp⟩
theorem ajj (s : ac) (l : List ac) (hl : l.length <= 1000) : ∃ r, sI (0, s, l, ()) = some r := by
  obtain ⟨z, h1, -⟩ := aU (b := ku) (fun i (_ : Unit) => ((i : Int), s, l, ())) l.length (fun _ _ => True) (fun _ => True) (by omega)
    (fun i hi _ _ => by
      have e1 := dlt (i := i) (l := l) (by omega)
      have e2 := dzz i
      have e3 := wr1 i (by omega)
      obtain ⟨r, hr⟩ := akd s l[i]
      simp only [ku, e1, e2, cond_true, Bool.and_self, Int.toNat_natCast, aK hi, hr, e3]
      cases r
      · exact .inr ⟨_, trivial, rfl⟩
      · exact .inl ⟨(), trivial, rfl⟩)
    (fun _ _ => by
      have e1 := dnl l
      exact ⟨_, trivial, by simp only [ku, e1, cond_false]; rfl⟩) () trivial
  exact ⟨z, h1⟩
theorem amS {m : ae} (h : MsgOK m) (s : ac) : ∃ r, ref08_Lies (m, s, ()) = some (r, ()) := by
  obtain ⟨a, ha, ha2⟩ := amc h
  obtain ⟨b, hb, hb2⟩ := akO h
  obtain ⟨z, hz⟩ := ajj s (([] ++ a) ++ b) (by simp; omega)
  have e1 : (decide ((List.length ([] : List (ac)) + List.length a) * 32 <= ai)) = true := av (by rw [aE]; simp; omega)
  have e2 : (decide ((List.length (([] : List (ac)) ++ a) + List.length b) * 32 <= ai)) = true := av (by rw [aE]; simp; omega)
  simp only [ref08_Lies, ha, hb, e1, e2, cond_true, hz]
  cases z <;> exact ⟨_, rfl⟩
abbrev BR : Type := ((au) × (List (aa)) × (ac) × (List (List (List UInt8))) × (a9) × Unit) -> Option ((aH) × Unit)
def TreeOK (ns : List api_Node) : Nat -> Nat -> Prop
  | 0, _ => False
  | h + 1, i => ∃ n, ns[i]? = some n /\
      ((h = 0 /\ n.2.2.1 = [] /\ n.1.length <= 1000 /\ ∀ p ∈ n.1, PlOK p.1) \/
       (0 < h /\ ∃ ks : List Nat, n.2.2.1 = kidsI ks /\ ks.length = n.2.1.length + 1 /\ n.2.1.length <= 100 /\ n.2.2.2.1.length <= 1000 /\ n.2.2.2.2.1.length <= 5 /\ (∀ m ∈ n.2.2.2.2.1, MsgOK m) /\ ∀ k ∈ ks, TreeOK ns h k))
theorem TreeOK.app {ns : List api_Node} (l : List api_Node) : ∀ {h i : Nat}, TreeOK ns h i -> TreeOK (ns ++ l) h i
  | 0, _, h => h.elim
  | h + 1, i, ⟨n, hn, hh⟩ => by
    refine ⟨n, ?_, hh.imp id fun ⟨h0, ks, a, b, c, d, e, f, g⟩ => ⟨h0, ks, a, b, c, d, e, f, fun k hk => TreeOK.app l (g k hk)⟩⟩
    rw [List.getElem?_append_left (List.getElem?_eq_some_iff.1 hn).1]
    exact hn
theorem TreeOK.lt {ns : List api_Node} {h i : Nat} (t : TreeOK ns h i) : i < ns.length := by
  cases h with
  | zero => exact t.elim
  | succ h =>
    obtain ⟨n, hn, -⟩ := t
    exact (List.getElem?_eq_some_iff.1 hn).1
theorem TreeOK.sum {ns : List api_Node} {h i : Nat} (t : TreeOK ns h i) (n : api_Node) (hn : ns[i]? = some n) : ∃ s, iS (n, ()) = some s := by
  cases h with
  | zero => exact t.elim
  | succ h =>
    obtain ⟨m, hm, hh⟩ := t
    obtain rfl := Option.some.inj (hm.symm.trans hn)
    rcases hh with ⟨-, h0, h1, h2⟩ | ⟨-, ks, a, b, c, d, e, f, g⟩
    · exact an0 h0 h2 (by omega)
    · refine amm ?_ (by omega) (fun m hm => (f m hm).mok) (by omega)
      intro h
      rw [a] at h
      have := congrArg List.length h
      rw [bi, List.length_nil] at this
      omega
structure BS where
  l : List api_Node
  ks : List Nat
  sums : List api_Sum
theorem am0 (r : BR) (N : List api_Node) (ks : List Nat) (hlt : ∀ k ∈ ks, k < N.length) (hn : ks.Nodup) (hl : N.length <= 1000) (hkl : ks.length <= 1000) (a : co) (piv : List (List UInt8)) (sums : List api_Sum) (buf : List ae) :
    mD r (0, [], 0, [], a, (mk N (fun j => if j ∈ ks then 2 else 1), ()), piv, kidsI ks, sums, buf, ()) = some (.inl ([], 0, a, (mk N (fun _ => 1), ()), ())) := by
  obtain ⟨z, h1, h2⟩ := aU (b := il r) (fun i (p : List aj) => ((i : Int), [], 0, [], a, (p, ()), piv, kidsI ks, sums, buf, ())) ks.length (fun i p => p = mk N (fun j => if j ∈ ks.drop i then 2 else 1)) (fun z => z = .inl ([], 0, a, (mk N (fun _ => 1), ()), ())) (by omega)
    (fun i hi p hp => by
      left
      subst hp
      refine ⟨_, rfl, ?_⟩
      have hik : ks[i] < N.length := hlt _ (List.getElem_mem hi)
      have e1 : (decide (((i : Nat) : Int) < ((List.length (kidsI ks)) : Int))) = true := av (by rw [bi]; omega)
      have e2 := dzz i
      have e3 := wr1 i (by omega)
      have hd : ks.drop i = ks[i] :: ks.drop (i + 1) := List.drop_eq_getElem_cons hi
      have hnd : (ks[i] :: ks.drop (i + 1)).Nodup := by rw [<- hd]; exact hn.sublist (List.drop_sublist _ _)
      have hnot := (List.nodup_cons.1 hnd).1
      have e4 := anO (ns := N) (r := fun j => if j ∈ ks.drop i then 2 else 1) hik (if_pos (by rw [hd]; exact List.mem_cons_self)) hl
      have e5 : mk N (fun j => if j = ks[i] then 1 else if j ∈ ks.drop i then 2 else 1) = mk N (fun j => if j ∈ ks.drop (i + 1) then 2 else 1) := lZ fun j _ => by
        by_cases hj : j = ks[i]
        · rw [if_pos hj, if_neg (by rw [hj]; exact hnot)]
        · rw [if_neg hj]
          have : j ∈ ks.drop i ↔ j ∈ ks.drop (i + 1) := by rw [hd, List.mem_cons]; exact ⟨fun h => h.resolve_left hj, .inr⟩
          by_cases h2 : j ∈ ks.drop i
          · rw [if_pos h2, if_pos (this.1 h2)]
          · rw [if_neg h2, if_neg (fun h => h2 (this.2 h))]
      rw [e5] at e4
      simp only [il, e1, e2, cond_true, Bool.and_self, Int.toNat_natCast, iD hi, e4, e3])
    (fun p hp => by
      subst hp
      have e1 : (decide (((ks.length : Nat) : Int) < ((List.length (kidsI ks)) : Int))) = false := aF (by rw [bi]; omega)
      have e5 : mk N (fun j => if j ∈ ks.drop ks.length then 2 else 1) = mk N (fun _ => 1) := lZ fun j _ => by rw [List.drop_length]; simp
      exact ⟨_, rfl, by simp only [il, e1, cond_false, e5]⟩) (mk N (fun j => if j ∈ ks then 2 else 1)) (by simp)
  subst h2
  exact h1
theorem amz (r : BR) (N : List api_Node) (ks : List Nat) (hlt : ∀ k ∈ ks, k < N.length) (hn : ks.Nodup) (hl : N.length <= 899) (hkl : ks.length <= 1000) (piv : List (List UInt8)) (sums : List api_Sum) (buf : List ae) :
    fT r ((mk N (fun _ => 1), ()), [], 0, [], piv, kidsI ks, sums, buf, ()) = some (((mk (N ++ [([], piv, kidsI ks, sums, buf, ())]) (fun _ => 1), ()), ((N.length : Nat) : Int), ()), ()) := by
  have e1 := amv (ns := N) (n := ([], piv, kidsI ks, sums, buf, ())) (ks := ks) rfl hlt hn hkl (by omega)
  have e2 := am0 r (N ++ [([], piv, kidsI ks, sums, buf, ())]) ks (fun k hk => by have := hlt k hk; simp; omega) hn (by simp; omega) hkl ((mk (N ++ [([], piv, kidsI ks, sums, buf, ())]) (fun j => if j ∈ ks then 2 else 1), ()), ((N.length : Int), (0, ()))) piv sums buf
  simp only [fT, e1, e2]
structure XOK (x : a9) : Prop where
  b0 : (∀ y ∈ x.2.1.1, raw6 y) /\ x.2.1.1.length < 1000000000000000000
  b1 : (∀ y ∈ x.2.1.2.1, raw6 y) /\ x.2.1.2.1.length < 1000000000000000000
  b2 : (∀ y ∈ x.2.1.2.2.1, raw6 y) /\ x.2.1.2.2.1.length < 1000000000000000000
  b3 : (∀ y ∈ x.2.1.2.2.2.1, raw6 y) /\ x.2.1.2.2.2.1.length < 1000000000000000000
structure TOK (t : List aa) : Prop where
  len : t.length <= 1000
  key : ∀ p ∈ t, PlOK p.1
theorem ahP (p q : aa) : ∀ t : List aa, q ∈ ins p t -> q = p \/ q ∈ t
  | [], h => by simp [ins] at h; exact .inl h
  | x :: t, h => by
    unfold ins at h
    cases hb : Op.bytesLess x.1 p.1
    · rw [hb, cond_false] at h
      rcases List.mem_cons.1 h with h | h
      · exact .inl h
      · exact .inr (List.mem_filter.1 h).1
    · rw [hb, cond_true] at h
      rcases List.mem_cons.1 h with h | h
      · exact .inr (by rw [h]; exact List.mem_cons_self)
      · exact (ahP p q t h).imp id (List.mem_cons_of_mem _)
theorem acI (l : List aT) (q : aa) (h : q ∈ sc l) : ∃ y ∈ l, q = oJ y := by
  have key : ∀ (l : List aT) (t : List aa), q ∈ l.foldl (fun t x => ins (oJ x) t) t -> q ∈ t \/ ∃ y ∈ l, q = oJ y := by
    intro l
    induction l with
    | nil => intro t h; exact .inl h
    | cons x l ih =>
      intro t h
      rcases ih _ h with h | ⟨y, hy, e⟩
      · rcases ahP _ _ _ h with h | h
        · exact .inr ⟨x, List.mem_cons_self, h⟩
        · exact .inl h
      · exact .inr ⟨y, List.mem_cons_of_mem _ hy, e⟩
  rcases key l [] h with h | h
  · simp at h
  · exact h
theorem aoe (n : Int) (h0 : 0 <= n) (h1 : n < 256) : PlOK (oT n) := by
  obtain ⟨m, rfl⟩ := Int.eq_ofNat_of_zero_le h0
  have hc : (List.range 256).all (fun k => (jq (oT ((k : Nat) : Int), ())).isSome) = true := by kernel_rfl
  exact List.all_eq_true.1 hc m (List.mem_range.2 (by omega))
theorem aor (l : List aT) (h : ∀ x ∈ l, raw24 x) : TOK (sc (l.take 40)) := by
  refine ⟨?_, fun p hp => ?_⟩
  · have := acH (l.take 40)
    simp only [List.length_take] at this
    omega
  · obtain ⟨y, hy, rfl⟩ := acI _ _ hp
    have := (h y (List.mem_of_mem_take hy)).1
    exact aoe y.1 this.1 this.2
def cap : Nat -> Nat
  | 0 => 1
  | d + 1 => 1 + 6 * cap d
structure ape (x : a9) : Prop where
  xok : XOK x
  t : (∀ y ∈ x.1, raw24 y) /\ x.1.length < 1000000000000000000
  w : 0 <= x.2.2.1 /\ x.2.2.1 < 256
def LV : List (List (List (List UInt8))) := [[], [[[97, 47, 98, 47], [98, 47], [99, 47]]], [[[98, 47]], [[97, 47, 2], [97, 47, 98, 47], [99, 47]]], [[[97, 47, 98, 47], [98, 47]], [[97, 47, 98, 47, 2], [99, 47], [100, 47]]]]
def shp (w : Int) : aT := (IntKind.i64.wrap (2 + IntKind.i64.wrap (Int.tmod (IntKind.u8.wrap (Int.tdiv w 4)) 4)), (IntKind.i64.wrap (2 + IntKind.i64.wrap (Int.tmod (IntKind.u8.wrap (Int.tdiv w 16)) 3)), (IntKind.i64.wrap (1 + IntKind.i64.wrap (IntKind.u8.wrap (Int.tdiv w 64))), ())))
theorem amV (x : a9) : vc (x, ()) = match qR (x.1, ()) with
    | none => none
    | some r0 => bif (decide ((0 : Int) <= IntKind.i64.wrap (Int.tmod x.2.2.1 4)) && decide (IntKind.i64.wrap (Int.tmod x.2.2.1 4) < (List.length LV : Int))) then
        match rU ((([] : List (aj)), ()), r0.1, (([] : List UInt8), (([] : List UInt8), ())), List.getD LV (Int.toNat (IntKind.i64.wrap (Int.tmod x.2.2.1 4))) [], x, ()) with
        | none => none
        | some r3 => some ((r3.1.1, (r3.1.2.1, (shp x.2.2.1, ()))), ())
      else none := rfl
theorem aoE {I J : Nat} (h : I + J < 4611686018427387904) : Int.fdiv (IntKind.u64.wrap (IntKind.i64.wrap ((I : Int) + (J : Int)))) (2 ^ (min (Int.toNat (1 : Int)) IntKind.u64.bits)) = (((I + J) / 2 : Nat) : Int) := by
  have e1 : IntKind.i64.wrap ((I : Int) + (J : Int)) = ((I + J : Nat) : Int) := by rw [dK (by omega)]; omega
  have e2 : IntKind.u64.wrap ((I + J : Nat) : Int) = ((I + J : Nat) : Int) := by
    show ((I + J : Nat) : Int) % 2 ^ 64 = _
    omega
  rw [e1, e2]
  have e3 : (2 : Int) ^ (min (Int.toNat (1 : Int)) IntKind.u64.bits) = 2 := by decide
  rw [e3, Int.fdiv_eq_ediv_of_nonneg _ (by omega)]
  omega
end D
open Go Go.X
namespace D
def ago (x y : List UInt8) : Int := if Op.bytesLess x y = true then -1 else if x = y then 0 else 1
theorem anK {x y : List UInt8} : (ago x y = 0) ↔ x = y := by
  unfold ago
  split
  · rename_i h
    have := oA h
    simp [this]
  · split <;> simp [*]
theorem aiI : ∀ (a b : List UInt8), Lib.compareBytes a b = ago a b
  | [], [] => rfl
  | [], _ :: _ => rfl
  | _ :: _, [] => rfl
  | a :: x, b :: y => by
    have ih := aiI x y
    rw [Lib.compareBytes]
    unfold ago at ih ⊢
    simp only [Op.bytesLess]
    by_cases h1 : a < b
    · simp [h1]
    · by_cases h2 : b < a
      · have h3 : a ≠ b := by rintro rfl; exact h1 h2
        simp [h1, h2, h3]
      · have h3 : a = b := UInt8.le_antisymm (UInt8.not_lt.1 h2) (UInt8.not_lt.1 h1)
        subst h3
        rw [if_neg h1, if_neg h1, ih]
        simp
theorem afe (p : aa) (k : List UInt8) : kA (p, k, ()) = some (ago p.1 k, ()) := by
  unfold kA oO dN
  simp only [aiI]
theorem adZ (n : api_Node) : tZ (n, ()) = some (decide ((((List.length n.2.2.1) : Int) : Int) = (0 : Int)), ()) := rfl
theorem akk (ns : List api_Node) (sh : aT) (root h : Nat) (hh : 1 <= h /\ h <= 100) (ht : TreeOK ns h root) :
    sf (((mk ns (fun _ => 1), ()), (((root : Nat) : Int), (sh, ()))), ()) = some ((h : Int), ()) := by
  obtain ⟨T, hT⟩ : ∃ T : am, ((mk ns (fun _ => 1), ()), (((root : Nat) : Int), (sh, ()))) = T := ⟨_, rfl⟩
  have hTp : T.1 = (mk ns (fun _ => 1), ()) := by rw [<- hT]
  have hTr : T.2.1 = ((root : Nat) : Int) := by rw [<- hT]
  rw [hT]
  have e1 := nV (ns := ns) (r := fun _ => 1) ht.lt
  obtain ⟨r, h1, rfl⟩ := aU (b := jB) (fun j (n : api_Node) => (((j + 1 : Nat) : Int), T, n, ())) (h - 1)
    (fun j n => ∃ id, TreeOK ns (h - j) id /\ ns[id]? = some n) (fun r => r = .inl ((h : Int), ())) (by omega)
    (fun j hj n hq => by
      left
      obtain ⟨id, a1, hn0⟩ := hq
      obtain ⟨m, hm⟩ : ∃ m, h - j = m + 1 := ⟨h - j - 1, by omega⟩
      rw [hm] at a1
      obtain ⟨n', hn, hcase⟩ := a1
      obtain rfl := Option.some.inj (hn.symm.trans hn0)
      rcases hcase with ⟨m0, -⟩ | ⟨m0, ks, b1, b2, b3, b4, b5, b6, b7⟩
      · omega
      · have hk0 : 0 < ks.length := by omega
        have e4 : (decide ((((List.length n'.2.2.1) : Int) : Int) = (0 : Int))) = false := aF (by rw [b1, bi]; omega)
        have e5 : (decide (((0 : Int) : Int) < (List.length n'.2.2.1 : Int))) = true := av (by rw [b1, bi]; omega)
        have e7 : List.getD n'.2.2.1 0 0 = ((ks[0] : Nat) : Int) := by rw [b1, iD hk0]
        have b8 := b7 _ (List.getElem_mem hk0)
        have e8 := nV (ns := ns) (r := fun _ => 1) b8.lt
        have e3 : IntKind.i64.wrap (((j + 1 : Nat) : Int) + 1) = ((j + 1 + 1 : Nat) : Int) := by rw [dK (by omega)]; omega
        refine ⟨ns[ks[0]]'b8.lt, ⟨ks[0], ?_, List.getElem?_eq_getElem b8.lt⟩, by simp only [jB, adZ, e4, Bool.not_false, cond_true, e5, e7, hTp, e8, e3]⟩
        rw [show h - (j + 1) = m by omega]
        exact b8)
    (fun n hq => by
      obtain ⟨id, a1, hn0⟩ := hq
      have hm : h - (h - 1) = 0 + 1 := by omega
      rw [hm] at a1
      obtain ⟨n', hn, hcase⟩ := a1
      obtain rfl := Option.some.inj (hn.symm.trans hn0)
      rcases hcase with ⟨m0, b1, b2, b3⟩ | ⟨m0, -⟩
      · have e4 : (decide ((((List.length n'.2.2.1) : Int) : Int) = (0 : Int))) = true := av (by rw [b1]; rfl)
        refine ⟨_, rfl, ?_⟩
        simp only [jB, adZ, e4, Bool.not_true, cond_false]
        rw [show ((h - 1 + 1 : Nat) : Int) = (h : Int) by omega]
      · exact (Nat.lt_irrefl _ m0).elim) (ns[root]'ht.lt) ⟨root, ht, List.getElem?_eq_getElem ht.lt⟩
  have h1' : rk ((1 : Int), T, ns[root]'ht.lt, ()) = some (.inl ((h : Int), ())) := h1
  simp only [sf, hTp, hTr, e1, h1']
theorem ym (x : R5) (h : raw6 x) : ∃ k v f t s, kU (x, ()) = some (cH (Int.tmod x.1 6) k v f (acL f t) s (IntKind.i64.wrap (Int.tmod x.2.2.2.2.2.1 8)), ()) /\ MsgOK (cH (Int.tmod x.1 6) k v f (acL f t) s (IntKind.i64.wrap (Int.tmod x.2.2.2.2.2.1 8))) /\ f ∈ paths5 /\ t ∈ paths5 /\ s.1.length <= 200 /\ s.2.1.length <= 200 := by
  obtain ⟨h1, h2, h3, h4⟩ := h
  obtain ⟨k, hk, ek⟩ := ajd _ h2
  obtain ⟨l, hl, el⟩ := ajd _ h4
  obtain ⟨v, hv, ev⟩ := akM _ h3
  obtain ⟨f, hf, ef⟩ := afa _ h2
  obtain ⟨t, ht, et⟩ := afa _ h4
  obtain ⟨t1, t2, t3⟩ := aoj f hf t ht
  obtain ⟨_, ep, ep3⟩ := kK f (fD f hf)
  have e1 : gh (k, ()) = some ((k, k ++ [0], ()), ()) := by
    unfold gh
    have hlen : keys20.all (fun k => decide (k.length < 100)) = true := by kernel_rfl
    have := of_decide_eq_true (List.all_eq_true.1 hlen k hk)
    have : k.length + ([0] : List UInt8).length <= ai := by rw [aE]; simp; omega
    simp only [this, av, cond_true]
  have hk100 : k.length < 100 := by
    have hlen : keys20.all (fun k => decide (k.length < 100)) = true := by kernel_rfl
    exact of_decide_eq_true (List.all_eq_true.1 hlen k hk)
  have hl100 : l.length < 100 := by
    have hlen : keys20.all (fun k => decide (k.length < 100)) = true := by kernel_rfl
    exact of_decide_eq_true (List.all_eq_true.1 hlen l hl)
  have hf100 : (preS f).1.length <= 200 /\ (preS f).2.1.length <= 200 := by
    have hlen : paths5.all (fun p => decide ((preS p).1.length <= 200) && decide ((preS p).2.1.length <= 200)) = true := by kernel_rfl
    have := List.all_eq_true.1 hlen f hf
    simpa using this
  have fin : ∀ s : ac, spanOK s -> (s.1.length <= 200 /\ s.2.1.length <= 200) -> ∃ k' v' f' t' s', (match bP (k, x, (0 : Int), ([] : List UInt8), ([] : List UInt8), ([] : List UInt8), ([] : List UInt8), ([] : List UInt8), ([] : List UInt8), (0 : Int), s, ()) with
      | none => none
      | some (.inl z7) => some ((z7.1, (z7.2.1, (z7.2.2.1, (z7.2.2.2.1, (z7.2.2.2.2.1, (z7.2.2.2.2.2.1, (z7.2.2.2.2.2.2.1, ()))))))), ())
      | some (.inr z7) => none) = some (cH (Int.tmod x.1 6) k' v' f' (acL f' t') s' (IntKind.i64.wrap (Int.tmod x.2.2.2.2.2.1 8)), ()) /\ MsgOK (cH (Int.tmod x.1 6) k' v' f' (acL f' t') s' (IntKind.i64.wrap (Int.tmod x.2.2.2.2.2.1 8))) /\ f' ∈ paths5 /\ t' ∈ paths5 /\ s'.1.length <= 200 /\ s'.2.1.length <= 200 := by
    intro s hs hsl
    refine ⟨k, v, f, t, s, ?_, akq _ _ _ _ _ _ _ hk hv hf t1 hs t2 t3, hf, ht, hsl⟩
    rw [ao1 k f t v x s ev ef et]
  unfold kU
  simp only [ek, el, ef, ep, e1]
  cases decide (Int.tmod x.2.2.2.2.1 4 = 0) with
  | true => exact fin _ (ak8 ep3) hf100
  | false =>
    simp only [cond_false]
    cases decide (Int.tmod x.2.2.2.2.1 16 = 1) with
    | true => exact fin _ (.inl rfl) ⟨by (try simp only [List.length_append, List.length_nil, List.length_cons]); omega, by (try simp only [List.length_append, List.length_nil, List.length_cons]); omega⟩
    | false =>
      simp only [cond_false]
      cases decide (Int.tmod x.2.2.2.2.1 16 = 5) with
      | true => exact fin _ (.inl rfl) ⟨by (try simp only [List.length_append, List.length_nil, List.length_cons]); omega, by (try simp only [List.length_append, List.length_nil, List.length_cons]); omega⟩
      | false =>
        simp only [cond_false]
        by_cases hkl : k = l
        · simp only [av hkl, cond_true]
          exact fin _ (.inr (amZ k)) ⟨by (try simp only [List.length_append, List.length_nil, List.length_cons]); omega, by (try simp only [List.length_append, List.length_nil, List.length_cons]); omega⟩
        · simp only [aF hkl, cond_false]
          refine fin _ (Or.inr ?_) ?_
          rotate_left
          · cases Op.bytesLess k l <;> simp <;> omega
          rcases dC k l with h | h | h
          · simp only [h, Bool.true_or, cond_true, Bool.not_true, cond_false]
          · exact absurd h hkl
          · simp only [iO h, Bool.false_or, Bool.or_false, Bool.not_false, cond_true, cond_false]
            exact h
def raw6n (x : R5) : Prop := raw6 x /\ (0 <= x.2.2.2.2.1 /\ x.2.2.2.2.1 < 256) /\ 0 <= x.2.2.2.2.2.1 /\ x.2.2.2.2.2.1 < 256
def MadeM (m : ae) : Prop := ∃ x : R5, raw6n x /\ kU (x, ()) = some (m, ())
theorem MadeM.ok {m : ae} (h : MadeM m) : MsgOK m := by
  obtain ⟨x, hx, e⟩ := h
  obtain ⟨k, v, f, t, s, e2, ok, -, -⟩ := ym x hx.1
  have e3 := Option.some.inj (e.symm.trans e2)
  have e4 : m = _ := congrArg Prod.fst e3
  rw [e4]
  exact ok
theorem anX (l : List R5) (h : ∀ x ∈ l, raw6n x) (n : Nat) (hn : n <= 1000) (hl : l.length < 1000000000000000000) : ∃ ms, uS (l, (n : Int), ()) = some (ms, ()) /\ ms.length <= n /\ ∀ m ∈ ms, MadeM m := by
  obtain ⟨z, h1, ms, rfl, h2, h3⟩ := aU (b := iR) (fun i (out : List ae) => (l, (n : Int), (i : Int), out, ())) (min l.length n) (fun i out => out.length = i /\ ∀ m ∈ out, MadeM m) (fun z => ∃ ms, z = .inl (ms, ()) /\ ms.length <= n /\ ∀ m ∈ ms, MadeM m) (by omega)
    (fun i hi out ho => by
      left
      obtain ⟨ho1, ho2⟩ := ho
      have hi1 : i < l.length := by omega
      obtain ⟨mm, e, ok⟩ : ∃ mm, kU (l[i], ()) = some (mm, ()) /\ MadeM mm := by
        obtain ⟨k, v, f, t, s, e, ok, -, -⟩ := ym l[i] (h _ (List.getElem_mem hi1)).1
        exact ⟨_, e, l[i], h _ (List.getElem_mem hi1), e⟩
      refine ⟨out ++ [mm], ⟨by rw [List.length_append, ho1]; rfl, fun m hm => ?_⟩, ?_⟩
      rotate_left
      · have e1 := dlt (i := i) (l := l) (by omega)
        have e2 := dzz i
        have e3 := wr1 i (by omega)
        have e4 : (decide (((i : Nat) : Int) < (n : Int))) = true := av (by omega)
        have e5 : ∀ x : ae, (decide ((List.length out + List.length ([x] : List (ae))) * 112 <= ai)) = true := fun x => av (by rw [ho1, aE]; simp; omega)
        simp only [iR, ie, e1, e2, e4, cond_true, Bool.and_self, Int.toNat_natCast, aK hi1, e, e5, e3]
      · rcases List.mem_append.1 hm with hm | hm
        · exact ho2 m hm
        · rw [List.mem_singleton.1 hm]; exact ok)
    (fun out ho => by
      obtain ⟨ho1, ho2⟩ := ho
      refine ⟨_, ⟨out, rfl, by omega, ho2⟩, ?_⟩
      rcases Nat.lt_or_ge (min l.length n) l.length with h1 | h1
      · have e1 : (decide (((min l.length n : Nat) : Int) < ((List.length l) : Int))) = true := av (by omega)
        have e4 : (decide (((min l.length n : Nat) : Int) < (n : Int))) = false := aF (by omega)
        simp only [iR, ie, e1, e4, cond_true, cond_false]
      · have e1 : (decide (((min l.length n : Nat) : Int) < ((List.length l) : Int))) = false := aF (by omega)
        simp only [iR, ie, e1, cond_false]) [] ⟨rfl, by simp⟩
  have h1' : sH (l, (n : Int), 0, [], ()) = some (.inl (ms, ())) := h1
  exact ⟨ms, by simp only [uS, h1'], h2, h3⟩
theorem u6 (l : List R5) (h : ∀ x ∈ l, raw6n x) (s : ac) (hl : l.length < 1000000000000000000) : ∃ ms, gJ (l, s, (5 : Int), ()) = some (ms, ()) /\ ms.length <= 5 /\ ∀ m ∈ ms, MadeM m /\ ref08_Lies (m, s, ()) = some (true, ()) := by
  obtain ⟨all, h1, h2, h3⟩ := anX l h 15 (by omega) hl
  obtain ⟨z, g1, ms, rfl, g2, g3⟩ := aU (b := dR) (fun i (out : List ae) => ((5 : Int), (i : Int), s, out, all, ())) all.length (fun i out => out.length <= 5 /\ ∀ m ∈ out, MadeM m /\ ref08_Lies (m, s, ()) = some (true, ())) (fun z => ∃ ms, z = .inl (ms, ()) /\ ms.length <= 5 /\ ∀ m ∈ ms, MadeM m /\ ref08_Lies (m, s, ()) = some (true, ())) (by omega)
    (fun i hi out ho => by
      obtain ⟨ho1, ho2⟩ := ho
      have e1 := dlt (i := i) (l := all) (by omega)
      have e2 := dzz i
      have e3 := wr1 i (by omega)
      by_cases h5 : out.length < 5
      · left
        have e4 : (decide ((((List.length out) : Int) : Int) < (5 : Int))) = true := av (by omega)
        obtain ⟨r, hr⟩ := amS (h3 all[i] (List.getElem_mem hi)).ok s
        have e5 : ∀ x : ae, (decide ((List.length out + List.length ([x] : List (ae))) * 112 <= ai)) = true := fun x => av (by rw [aE]; simp; omega)
        cases r with
        | false => exact ⟨out, ⟨ho1, ho2⟩, by simp only [dR, dD, e1, e2, e4, cond_true, cond_false, Bool.and_self, Int.toNat_natCast, aK hi, hr, e3]⟩
        | true =>
          refine ⟨out ++ [all[i]], ⟨by simp; omega, fun m hm => ?_⟩, by simp only [dR, dD, e1, e2, e4, cond_true, cond_false, Bool.and_self, Int.toNat_natCast, aK hi, hr, e5, e3]⟩
          rcases List.mem_append.1 hm with hm | hm
          · exact ho2 m hm
          · rw [List.mem_singleton.1 hm]; exact ⟨h3 _ (List.getElem_mem hi), hr⟩
      · right
        have e4 : (decide ((((List.length out) : Int) : Int) < (5 : Int))) = false := aF (by omega)
        exact ⟨_, ⟨out, rfl, ho1, ho2⟩, by simp only [dR, dD, e1, e4, cond_true, cond_false]⟩)
    (fun out ho => by
      have e1 := dnl all
      exact ⟨_, ⟨out, rfl, ho.1, ho.2⟩, by simp only [dR, dD, e1, cond_false]⟩) [] ⟨by simp, by simp⟩
  have g1' : np (5, 0, s, [], all, ()) = some (.inl (ms, ())) := g1
  have e6 : IntKind.i64.wrap ((3 : Int) * 5) = ((15 : Nat) : Int) := by rw [dK (by omega)]; rfl
  exact ⟨ms, by simp only [gJ, e6, h1, g1'], g2, g3⟩
def mineOf (P : List (List UInt8)) (s : ac) : List (List UInt8) := P.filter fun k => (!(Op.bytesLess k s.1 || decide (k = s.1))) && er s k
def partsOf (s : ac) (m : List (List UInt8)) : List ac := ((l7 (s, m, ())).map (·.1)).getD []
theorem qq (P : List (List UInt8)) (s : ac) : (mineOf P s).length <= P.length := List.length_filter_le _ _
theorem qG (s : ac) (m : List (List UInt8)) (hl : m.length <= 100000) : l7 (s, m, ()) = some (partsOf s m, ()) /\ (partsOf s m).length = m.length + 1 := by
  obtain ⟨l, h1, h2⟩ := alX s m hl
  have e : partsOf s m = l := by unfold partsOf; rw [h1]; rfl
  rw [e]
  exact ⟨h1, h2⟩
theorem ant (n : api_Node) (s : ac) (h0 : n.2.2.1 ≠ []) (hl : n.2.1.length <= 100000) : gD (n, s, ()) = some (partsOf s n.2.1, ()) := by
  obtain ⟨h1, h2⟩ := qG s n.2.1 hl
  have e0 : (decide ((((List.length n.2.2.1) : Int) : Int) = (0 : Int))) = false := aF (by
    have := List.length_pos_iff.2 h0
    omega)
  simp only [gD, e0, cond_false, h1]
theorem al4 (r : BR) (t : List aa) (pv : List (List (List UInt8))) (p : au) (s : ac) (x : a9) (h0 : 0 < pv.length) (hl : (List.getD pv 0 []).length <= 100) :
    mB r (t, pv, 0, p, s, x, [], 0, [], ()) = some (.inl (t, pv, p, s, x, [], 0, mineOf (List.getD pv 0 []) s, ())) := by
  obtain ⟨P, hP⟩ : ∃ P, List.getD pv 0 [] = P := ⟨_, rfl⟩
  rw [hP] at hl ⊢
  obtain ⟨z, h1, rfl⟩ := aU (b := ik r) (fun i (mine : List (List UInt8)) => (t, pv, (i : Int), p, s, x, [], 0, mine, ())) P.length (fun i mine => mine = mineOf (P.take i) s) (fun z => z = .inl (t, pv, p, s, x, [], 0, mineOf P s, ())) (by omega)
    (fun i hi mine hm => by
      left
      have e0 : (decide (((0 : Int) : Int) < (List.length pv : Int))) = true := av (by omega)
      have e1 := dlt (i := i) (l := P) (by omega)
      have e2 := dzz i
      have e3 := wr1 i (by omega)
      have hml : mine.length <= i := by
        rw [hm]
        have := qq (P.take i) s
        rw [List.length_take] at this
        omega
      have e5 : ∀ k : List UInt8, (decide ((List.length mine + List.length ([k] : List (List UInt8))) * 16 <= ai)) = true := fun k => av (by rw [aE]; simp; omega)
      have hs : mineOf (P.take (i + 1)) s = mine ++ mineOf [P[i]] s := by
        rw [bq hi, hm]
        unfold mineOf
        rw [List.filter_append]
      simp only [ik, m8, e0, e1, e2, hP, cond_true, Bool.and_self, Int.toNat_natCast, aK hi, amG, e5, e3]
      unfold mineOf at hs
      simp only [List.filter_cons, List.filter_nil] at hs
      cases h2 : (!(Op.bytesLess P[i] s.1 || decide ((P[i] : List UInt8) = s.1)))
      · rw [h2] at hs
        exact ⟨mine, by unfold mineOf; rw [hs]; simp, by simp only [cond_false]⟩
      · rw [h2] at hs
        cases h3 : er s P[i]
        · rw [h3] at hs
          exact ⟨mine, by unfold mineOf; rw [hs]; simp, by simp only [cond_true, cond_false]⟩
        · rw [h3] at hs
          exact ⟨mine ++ [P[i]], by unfold mineOf; rw [hs]; simp, by simp only [cond_true]⟩)
    (fun mine hm => by
      have e0 : (decide (((0 : Int) : Int) < (List.length pv : Int))) = true := av (by omega)
      have e1 := dnl P
      rw [List.take_length] at hm
      subst hm
      exact ⟨_, rfl, by simp only [ik, e0, e1, hP, cond_true, cond_false]⟩) [] rfl
  exact h1
def SumAt (ns : List api_Node) (k : Nat) (s : api_Sum) : Prop := ∃ kid, ns[k]? = some kid /\ iS (kid, ()) = some (s, ())
abbrev sp0 : ac := (([] : List UInt8), (([] : List UInt8), ()))
abbrev sum0 : api_Sum := (((0 : Int), ((0 : Int), ())), (((0 : Int), ((0 : Int), ())), ()))
def TreeS (ns : List api_Node) (t : List aa) : List (List (List UInt8)) -> ac -> Nat -> Prop
  | [], s, i => ns[i]? = some (inS s t, [], [], [], [], ())
  | P :: pv, s, i => ∃ (ks : List Nat) (sums : List api_Sum) (buf : List ae),
      ns[i]? = some ([], mineOf P s, kidsI ks, sums, buf, ()) /\ ks.length = (mineOf P s).length + 1 /\ sums.length = ks.length /\ ks.Nodup /\ (∀ k ∈ ks, k < i) /\
      buf.length <= 5 /\ (∀ m ∈ buf, MadeM m /\ ref08_Lies (m, s, ()) = some (true, ())) /\
      ∀ j, j < ks.length -> TreeS ns t pv (List.getD (partsOf s (mineOf P s)) j sp0) (ks.getD j 0) /\ SumAt ns (ks.getD j 0) (List.getD sums j sum0)
theorem SumAt.app {ns : List api_Node} (l : List api_Node) {k : Nat} {s : api_Sum} (h : SumAt ns k s) : SumAt (ns ++ l) k s := by
  obtain ⟨n, h1, h2⟩ := h
  refine ⟨n, ?_, h2⟩
  rw [List.getElem?_append_left (List.getElem?_eq_some_iff.1 h1).1]
  exact h1
theorem TreeS.app {ns : List api_Node} {t : List aa} (l : List api_Node) : ∀ {pv : List (List (List UInt8))} {s : ac} {i : Nat}, TreeS ns t pv s i -> TreeS (ns ++ l) t pv s i
  | [], s, i, h => by
    show (ns ++ l)[i]? = _
    rw [List.getElem?_append_left (List.getElem?_eq_some_iff.1 h).1]
    exact h
  | P :: pv, s, i, ⟨ks, sums, buf, h1, h2, h3, h4, h5, h6, h7, h8⟩ => by
    refine ⟨ks, sums, buf, ?_, h2, h3, h4, h5, h6, h7, fun j hj => ⟨TreeS.app l (h8 j hj).1, (h8 j hj).2.app l⟩⟩
    rw [List.getElem?_append_left (List.getElem?_eq_some_iff.1 h1).1]
    exact h1
theorem TreeS.ok {ns : List api_Node} {t : List aa} (ht : TOK t) : ∀ {pv : List (List (List UInt8))} {s : ac} {i : Nat}, (∀ q ∈ pv, q.length <= 5) -> TreeS ns t pv s i -> TreeOK ns (pv.length + 1) i
  | [], s, i, hq, h => ⟨_, h, .inl ⟨rfl, rfl, by have := adY s t; have := ht.len; show (inS s t).length <= 1000; omega, fun p hp => ht.key p (List.mem_filter.1 hp).1⟩⟩
  | P :: pv, s, i, hq, ⟨ks, sums, buf, h1, h2, h3, h4, h5, h6, h7, h8⟩ => by
    have hP := hq P List.mem_cons_self
    have hm := qq P s
    refine ⟨_, h1, .inr ⟨by simp, ks, rfl, h2, by show (mineOf P s).length <= 100; omega, by show sums.length <= 1000; omega, h6, fun m hm => (h7 m hm).1.ok, fun k hk => ?_⟩⟩
    obtain ⟨j, hj, rfl⟩ := List.mem_iff_getElem.1 hk
    have := (h8 j hj).1
    rw [aK hj] at this
    exact TreeS.ok ht (fun q hq' => hq q (List.mem_cons_of_mem _ hq')) this
theorem TreeS.lt {ns : List api_Node} {t : List aa} : ∀ {pv : List (List (List UInt8))} {s : ac} {i : Nat}, TreeS ns t pv s i -> i < ns.length
  | [], s, i, h => (List.getElem?_eq_some_iff.1 h).1
  | P :: pv, s, i, ⟨ks, sums, buf, h1, _⟩ => (List.getElem?_eq_some_iff.1 h1).1
theorem acW {α : Type} {l : List α} {x d : α} {j : Nat} (h : j < l.length) : List.getD (l ++ [x]) j d = List.getD l j d := by
  simp [List.getD, List.getElem?_append_left h]
theorem wW {α : Type} {l : List α} {x d : α} {j : Nat} (h : j = l.length) : List.getD (l ++ [x]) j d = x := by
  subst h
  simp [List.getD]
def sz : List (List (List UInt8)) -> ac -> Nat
  | [], _ => 1
  | P :: pv, s => 1 + ((partsOf s (mineOf P s)).map (sz pv)).sum
def xG (n : api_Node) : Prop := n.1.length <= 1000 /\ n.2.1.length <= 1000 /\ n.2.2.1.length <= 1000 /\ n.2.2.2.1.length <= 1000 /\ n.2.2.2.2.1.length <= 1000
def aaN (r : BR) (t : List aa) (x : a9) (pv : List (List (List UInt8))) (c : Nat) : Prop :=
  ∀ (ns : List api_Node) (s : ac), ns.length + c <= 900 ->
    ∃ l i, r ((mk ns (fun _ => 1), ()), t, s, pv, x, ()) = some (((mk (ns ++ l) (fun _ => 1), ()), ((i : Nat) : Int), ()), ()) /\ l.length <= c /\ ns.length <= i /\ TreeS (ns ++ l) t pv s i /\ sz pv s <= l.length /\ ∀ n ∈ l, xG n
theorem al5 (r : BR) (t : List aa) (ht : TOK t) (x : a9) (P : List (List UInt8)) (pv : List (List (List UInt8))) (hq : ∀ q ∈ pv, q.length <= 5) (c : Nat) (hr : aaN r t x pv c) (ns : List api_Node) (s : ac) (parts : List ac) (mine : List (List UInt8)) (hp : parts.length <= 6) (hn : ns.length + parts.length * c <= 900) (hpv : pv.length <= 100) :
    ∃ q : BS, mC r (t, P :: pv, 0, (mk ns (fun _ => 1), ()), s, x, [], 0, [], [], parts, mine, [], [], ()) = some (.inl ((mk (ns ++ q.l) (fun _ => 1), ()), s, x, [], 0, [], [], mine, kidsI q.ks, q.sums, ())) /\
      q.l.length <= parts.length * c /\ q.ks.length = parts.length /\ q.sums.length = parts.length /\ q.ks.Nodup /\ (∀ k ∈ q.ks, k < (ns ++ q.l).length) /\ (∀ j, j < parts.length -> TreeS (ns ++ q.l) t pv (List.getD parts j sp0) (q.ks.getD j 0) /\ SumAt (ns ++ q.l) (q.ks.getD j 0) (List.getD q.sums j sum0)) /\ (parts.map (sz pv)).sum <= q.l.length /\ ∀ n ∈ q.l, xG n := by
  obtain ⟨z, h1, q, rfl, h2⟩ := aU (b := fS r) (fun i (q : BS) => (t, P :: pv, (i : Int), (mk (ns ++ q.l) (fun _ => 1), ()), s, x, [], 0, [], [], parts, mine, kidsI q.ks, q.sums, ())) parts.length
    (fun i q => q.l.length <= i * c /\ q.ks.length = i /\ q.sums.length = i /\ q.ks.Nodup /\ (∀ k ∈ q.ks, k < (ns ++ q.l).length) /\ (∀ j, j < i -> TreeS (ns ++ q.l) t pv (List.getD parts j sp0) (q.ks.getD j 0) /\ SumAt (ns ++ q.l) (q.ks.getD j 0) (List.getD q.sums j sum0)) /\ ((parts.take i).map (sz pv)).sum <= q.l.length /\ ∀ n ∈ q.l, xG n)
    (fun z => ∃ q : BS, z = .inl ((mk (ns ++ q.l) (fun _ => 1), ()), s, x, [], 0, [], [], mine, kidsI q.ks, q.sums, ()) /\ q.l.length <= parts.length * c /\ q.ks.length = parts.length /\ q.sums.length = parts.length /\ q.ks.Nodup /\ (∀ k ∈ q.ks, k < (ns ++ q.l).length) /\ (∀ j, j < parts.length -> TreeS (ns ++ q.l) t pv (List.getD parts j sp0) (q.ks.getD j 0) /\ SumAt (ns ++ q.l) (q.ks.getD j 0) (List.getD q.sums j sum0)) /\ (parts.map (sz pv)).sum <= q.l.length /\ ∀ n ∈ q.l, xG n) (by omega)
    (fun i hi q hq2 => by
      left
      obtain ⟨a1, a2, a3, a4, a5, a6, a7, a8⟩ := hq2
      have hmul : i * c + c <= parts.length * c := by
        have : (i + 1) * c <= parts.length * c := Nat.mul_le_mul_right c hi
        rw [Nat.add_mul] at this
        omega
      have e1 := dlt (i := i) (l := parts) (by omega)
      have e2 := dzz i
      have e3 := wr1 i (by omega)
      have e4 : (decide (((1 : Int) : Int) <= (List.length (P :: pv) : Int)) && decide (((List.length (P :: pv) : Int) : Int) <= (List.length (P :: pv) : Int))) = true := by
        rw [av (by simp; omega), av (Int.le_refl _)]; rfl
      have e5 : List.drop (Int.toNat (1 : Int)) (List.take (List.length (P :: pv)) (P :: pv)) = pv := by
        rw [List.take_length]
        rfl
      obtain ⟨l, j, b1, b2, b3, b4, b5, b6⟩ := hr (ns ++ q.l) parts[i] (by simp; omega)
      have hj := b4.lt
      have e6 := aeX (r := fun _ => 1) hj
      obtain ⟨sm, hsm⟩ := (b4.ok ht hq).sum _ (List.getElem?_eq_getElem hj)
      have e7 : (decide ((List.length (kidsI q.ks) + List.length ([((j : Nat) : Int)] : List (Int))) * 8 <= ai)) = true := av (by rw [bi, aE]; simp; omega)
      have e8 : ∀ y : api_Sum, (decide ((List.length q.sums + List.length ([y] : List (api_Sum))) * 32 <= ai)) = true := fun y => av (by rw [aE]; simp; omega)
      have e9 : kidsI q.ks ++ [((j : Nat) : Int)] = kidsI (q.ks ++ [j]) := by simp [kidsI]
      refine ⟨⟨q.l ++ l, q.ks ++ [j], q.sums ++ [sm.1]⟩, ⟨by simp only [List.length_append]; rw [Nat.add_mul]; omega, by simp [a2], by simp [a3], ?_, ?_, ?_, ?_, fun n hn => (List.mem_append.1 hn).elim (a8 n) (b6 n)⟩, ?_⟩
      · rw [List.nodup_append]
        refine ⟨a4, by simp, ?_⟩
        intro a ha b hb
        have := a5 a ha
        simp only [List.mem_singleton] at hb
        omega
      · intro k hk
        rw [<- List.append_assoc]
        rcases List.mem_append.1 hk with hk | hk
        · have := a5 k hk
          rw [List.length_append]
          omega
        · rw [List.mem_singleton.1 hk]; exact hj
      · intro k hk
        rw [<- List.append_assoc]
        show TreeS _ t pv _ (List.getD (q.ks ++ [j]) k 0) /\ SumAt _ (List.getD (q.ks ++ [j]) k 0) (List.getD (q.sums ++ [sm.1]) k sum0)
        rcases Nat.lt_or_ge k i with h | h
        · rw [acW (by omega), acW (by omega)]
          exact ⟨(a6 k h).1.app l, (a6 k h).2.app l⟩
        · have hki : k = i := by omega
          subst hki
          rw [wW (by omega), wW (by omega), aK hi]
          exact ⟨b4, _, List.getElem?_eq_getElem hj, hsm⟩
      · rw [bq hi, List.map_append, List.sum_append]
        simp only [List.map_cons, List.map_nil, List.sum_cons, List.sum_nil, List.length_append]
        omega
      · have e10 : iS ((ns ++ q.l ++ l)[j], ()) = some (sm.1, ()) := hsm
        show fS r _ = some (Sum.inl (t, P :: pv, ((i + 1 : Nat) : Int), (mk (ns ++ (q.l ++ l)) (fun _ => 1), ()), s, x, [], 0, [], [], parts, mine, kidsI (q.ks ++ [j]), q.sums ++ [sm.1], ()))
        rw [show ns ++ (q.l ++ l) = ns ++ q.l ++ l from (List.append_assoc _ _ _).symm]
        simp only [fS, e1, e2, e4, e5, cond_true, Bool.and_self, Int.toNat_natCast, aK hi, b1, e6, e7, e10, e8, e3, e9])
    (fun q hq2 => by
      have e1 := dnl parts
      obtain ⟨a1, a2, a3, a4, a5, a6, a7, a8⟩ := hq2
      rw [List.take_length] at a7
      exact ⟨_, ⟨q, rfl, a1, a2, a3, a4, a5, a6, a7, a8⟩, by simp only [fS, e1, cond_false]⟩) ⟨[], [], []⟩ ⟨by simp, rfl, rfl, List.nodup_nil, by simp, fun j hj => by omega, by simp, by simp⟩
  refine ⟨q, ?_, h2⟩
  have h1' := h1
  simp only [List.append_nil] at h1'
  exact h1'
structure XOKn (x : a9) : Prop where
  b0 : (∀ y ∈ x.2.1.1, raw6n y) /\ x.2.1.1.length < 1000000000000000000
  b1 : (∀ y ∈ x.2.1.2.1, raw6n y) /\ x.2.1.2.1.length < 1000000000000000000
  b2 : (∀ y ∈ x.2.1.2.2.1, raw6n y) /\ x.2.1.2.2.1.length < 1000000000000000000
  b3 : (∀ y ∈ x.2.1.2.2.2.1, raw6n y) /\ x.2.1.2.2.2.1.length < 1000000000000000000
theorem al3 (r : BR) (x : a9) (hx : XOKn x) (w : Nat) (hw : w < 4) (p : au) (s : ac) (piv : List (List UInt8)) (kids : List Int) (sums : List api_Sum) :
    ∃ buf : List ae, buf.length <= 5 /\ (∀ m ∈ buf, MadeM m /\ ref08_Lies (m, s, ()) = some (true, ())) /\ jy r ((w : Int), p, s, x, [], 0, [], [], piv, kids, sums, ()) = fT r (p, [], 0, [], piv, kids, sums, buf, ()) := by
  obtain ⟨f0, a0, a1, a2⟩ := u6 _ hx.b0.1 s hx.b0.2
  obtain ⟨f1, c0, c1, c2⟩ := u6 _ hx.b1.1 s hx.b1.2
  obtain ⟨f2, d0, d1, d2⟩ := u6 _ hx.b2.1 s hx.b2.2
  obtain ⟨f3, g0, g1, g2⟩ := u6 _ hx.b3.1 s hx.b3.2
  have e1 := dzz w
  have e2 : (decide ((w : Int) < 4)) = true := av (by omega)
  simp only [jy, e1, e2, cond_true, Bool.and_self, Int.toNat_natCast]
  match w, hw with
  | 0, _ => exact ⟨f0, a1, a2, by simp only [a0]; rfl⟩
  | 1, _ => exact ⟨f1, c1, c2, by simp only [c0]; rfl⟩
  | 2, _ => exact ⟨f2, d1, d2, by simp only [d0]; rfl⟩
  | 3, _ => exact ⟨f3, g1, g2, by simp only [g0]; rfl⟩
theorem ah7 (r : BR) (t : List aa) (x : a9) (ht : TOK t) : aaN (dQ r) t x [] 1 := by
  intro ns s hn
  have e0 : (decide ((((List.length ([] : List (List (List UInt8)))) : Int) : Int) > (0 : Int))) = false := rfl
  have e1 : (decide ((((List.length ([] : List (List (List UInt8)))) : Int) : Int) = (0 : Int))) = true := rfl
  have e2 := ank t s (by have := ht.len; omega)
  have e3 := amv (ns := ns) (n := (inS s t, [], [], [], [], ())) (ks := []) rfl (by simp) List.nodup_nil (by simp) (by omega)
  have e4 : mk (ns ++ [(inS s t, [], [], [], [], ())]) (fun j => if j ∈ ([] : List Nat) then 2 else 1) = mk (ns ++ [(inS s t, [], [], [], [], ())]) (fun _ => 1) := lZ fun j _ => by simp
  rw [e4] at e3
  refine ⟨[(inS s t, [], [], [], [], ())], ns.length, ?_, by simp, Nat.le_refl _, ?_, by simp [sz], fun n hn => ?_⟩
  · simp only [dQ, e0, cond_false, mA, e1, cond_true, e2, e3]
  · show (ns ++ [_])[ns.length]? = _
    simp
  · rw [List.mem_singleton.1 hn]
    have := adY s t
    have := ht.len
    exact ⟨by show (inS s t).length <= 1000; omega, by simp, by simp, by simp, by simp⟩
theorem ah8 (r : BR) (t : List aa) (ht : TOK t) (x : a9) (hx : XOKn x) (P : List (List UInt8)) (pv : List (List (List UInt8))) (hP : P.length <= 5) (hq : ∀ q ∈ pv, q.length <= 5) (hpl : pv.length <= 100) (c : Nat) (hr : aaN r t x pv c) : aaN (dQ r) t x (P :: pv) (1 + 6 * c) := by
  intro ns s hn
  have e0 : (decide ((((List.length (P :: pv)) : Int) : Int) > (0 : Int))) = true := av (by simp)
  have e1 : (decide ((((List.length (P :: pv)) : Int) : Int) = (0 : Int))) = false := aF (by simp; omega)
  have m1 := al4 r t (P :: pv) (mk ns (fun _ => 1), ()) s x (by simp) (by show P.length <= 100; omega)
  have hg : List.getD (P :: pv) 0 [] = P := rfl
  rw [hg] at m1
  have hm : (mineOf P s).length <= 5 := Nat.le_trans (qq P s) hP
  obtain ⟨mine, hmine⟩ : ∃ m, mineOf P s = m := ⟨_, rfl⟩
  rw [hmine] at m1 hm
  have e2 : IntKind.i64.wrap (((List.length mine) : Int) + 1) = ((mine.length + 1 : Nat) : Int) := by rw [dK (by omega)]; omega
  have e3 : (decide ((0 : Int) <= ((mine.length + 1 : Nat) : Int)) && decide (((mine.length + 1 : Nat) : Int) <= ((mine.length + 1 : Nat) : Int)) && decide (((mine.length + 1 : Nat) : Int) * (8 : Int) <= (ai : Int))) = true := by
    rw [av (by omega), av (by omega), av (by rw [aE]; omega)]; rfl
  have p1 := ant ([], mine, List.replicate (mine.length + 1) (0 : Int), [], [], ()) s (by simp [List.replicate_succ]) (by show mine.length <= 100000; omega)
  have p1 : gD (([], mine, List.replicate (mine.length + 1) (0 : Int), [], [], ()), s, ()) = some (partsOf s mine, ()) := p1
  have p2 := (qG s mine (by omega)).2
  obtain ⟨parts, hparts⟩ : ∃ p, partsOf s mine = p := ⟨_, rfl⟩
  rw [hparts] at p1 p2
  have hmul : parts.length * c <= 6 * c := Nat.mul_le_mul_right c (by omega)
  obtain ⟨q, q1, q2, q3, q4, q5, q6, q7, q8, q9⟩ := al5 r t ht x P pv hq c hr ns s parts mine (by omega) (by omega) hpl
  have fin : ∀ w : Nat, w < 4 -> ∃ l i, jy r ((w : Int), (mk (ns ++ q.l) (fun _ => 1), ()), s, x, [], 0, [], [], mine, kidsI q.ks, q.sums, ()) = some (((mk (ns ++ l) (fun _ => 1), ()), ((i : Nat) : Int), ()), ()) /\ l.length <= 1 + 6 * c /\ ns.length <= i /\ TreeS (ns ++ l) t (P :: pv) s i /\ sz (P :: pv) s <= l.length /\ ∀ n ∈ l, xG n := by
    intro w hw
    obtain ⟨buf, b1, b2, b3⟩ := al3 r x hx w hw (mk (ns ++ q.l) (fun _ => 1), ()) s mine (kidsI q.ks) q.sums
    have b4 := amz r (ns ++ q.l) q.ks q6 q5 (by simp; omega) (by omega) mine q.sums buf
    refine ⟨q.l ++ [([], mine, kidsI q.ks, q.sums, buf, ())], (ns ++ q.l).length, ?_, by simp; omega, by simp, ?_, ?_, ?_⟩
    · rw [b3, b4, List.append_assoc]
    · rw [<- List.append_assoc]
      refine ⟨q.ks, q.sums, buf, by rw [hmine, List.getElem?_append_right (Nat.le_refl _)]; simp, by rw [hmine]; omega, by omega, q5, q6, b1, b2, fun j hj => ?_⟩
      rw [hmine, hparts]
      exact ⟨(q7 j (by omega)).1.app _, (q7 j (by omega)).2.app _⟩
    · show 1 + _ <= _
      rw [hmine, hparts]
      simp
      omega
    · intro n hn
      rcases List.mem_append.1 hn with hn | hn
      · exact q9 n hn
      · rw [List.mem_singleton.1 hn]
        exact ⟨by simp, by show mine.length <= 1000; omega, by show (kidsI q.ks).length <= 1000; rw [bi]; omega, by show q.sums.length <= 1000; omega, by show buf.length <= 1000; omega⟩
  have hw : Int.tmod ((List.length s.1) : Int) 3 = ((s.1.length % 3 : Nat) : Int) := by
    rw [Int.tmod_eq_emod_of_nonneg (by omega)]
    omega
  have e4 : IntKind.i64.wrap ((1 : Int) + ((s.1.length % 3 : Nat) : Int)) = ((1 + s.1.length % 3 : Nat) : Int) := by rw [dK (by omega)]; omega
  simp only [dQ, e0, cond_true, m1, mA, e1, cond_false, e2, e3, Int.toNat_natCast, p1, q1, hw, e4]
  cases (!(Ty.eqb af s (([] : List UInt8), (([] : List UInt8), ()))))
  · exact fin 0 (by omega)
  · exact fin _ (by omega)
theorem aaU (t : List aa) (x : a9) (ht : TOK t) (hx : XOKn x) : ∀ (pv : List (List (List UInt8))) (n : Nat), pv.length + 1 <= n -> pv.length <= 100 -> (∀ q ∈ pv, q.length <= 5) -> aaN (fE n) t x pv (cap pv.length)
  | _, 0, h, _, _ => by omega
  | [], n + 1, _, _, _ => ah7 (fE n) t x ht
  | P :: pv, n + 1, h, h1, h2 => ah8 (fE n) t ht x hx P pv (h2 P List.mem_cons_self) (fun q hq => h2 q (List.mem_cons_of_mem _ hq)) (by simp at h1; omega) (cap pv.length) (aaU t x ht hx pv n (by simp at h; omega) (by simp at h1; omega) (fun q hq => h2 q (List.mem_cons_of_mem _ hq)))
structure aox (x : a9) : Prop where
  xok : XOKn x
  t : (∀ y ∈ x.1, raw24 y) /\ x.1.length < 1000000000000000000
  w : 0 <= x.2.2.1 /\ x.2.2.1 < 256
def adt (x : a9) : List aa := sc (x.1.take 40)
def aeT (x : a9) : List (List (List UInt8)) := List.getD LV (x.2.2.1.toNat % 4) []
theorem amU (x : a9) : aeT x ∈ LV := by
  have hw : x.2.2.1.toNat % 4 < LV.length := Nat.mod_lt _ (by decide)
  unfold aeT
  rw [aK hw]
  exact List.getElem_mem hw
theorem aiA : ∀ pv ∈ LV, pv.length <= 2 /\ ∀ q ∈ pv, q.length <= 5 := by decide
theorem an6 (x : a9) (h : aox x) : ∃ ns root, vc (x, ()) = some (((mk ns (fun _ => 1), ()), (((root : Nat) : Int), (shp x.2.2.1, ()))), ()) /\ TreeS ns (adt x) (aeT x) sp0 root /\ ns.length <= 43 /\ sz (aeT x) sp0 <= ns.length /\ ∀ n ∈ ns, xG n := by
  have e0 := alQ x.1 h.t.1 h.t.2
  have ht := aor x.1 h.t.1
  obtain ⟨l1, l2⟩ := aiA _ (amU x)
  have e1 : IntKind.i64.wrap (Int.tmod x.2.2.1 (4 : Int)) = ((x.2.2.1.toNat % 4 : Nat) : Int) := by
    have := h.w
    rw [Int.tmod_eq_emod_of_nonneg this.1, dK (by omega)]
    omega
  have hw4 : x.2.2.1.toNat % 4 < 4 := Nat.mod_lt _ (by decide)
  have hc : cap (aeT x).length <= 43 := by
    match (aeT x).length, l1 with
    | 0, _ => decide
    | 1, _ => decide
    | 2, _ => decide
  obtain ⟨l, i, b1, b2, b3, b4, b5, b6⟩ := aaU (adt x) x ht h.xok (aeT x) abc (by rw [gv]; omega) (by omega) l2 [] sp0 (by simp; omega)
  have b1' : rU ((([] : List (aj)), ()), adt x, sp0, aeT x, x, ()) = some (((mk ([] ++ l) (fun _ => 1), ()), ((i : Nat) : Int), ()), ()) := b1
  have e2 : (decide ((0 : Int) <= ((x.2.2.1.toNat % 4 : Nat) : Int))) = true := av (by omega)
  have e3 : (decide (((x.2.2.1.toNat % 4 : Nat) : Int) < (List.length LV : Int))) = true := av (by have : LV.length = 4 := rfl; omega)
  refine ⟨[] ++ l, i, ?_, b4, by simp; omega, by simpa using b5, by simpa using b6⟩
  unfold aeT adt at b1'
  rw [amV]
  simp only [e0, e1, e2, e3, Bool.and_self, cond_true, Int.toNat_natCast, b1']
def ao4 (k : List UInt8) : Nat := match ak4 (k, ()) with
  | some (p, e, _) => bif !decide (e = 0) then 0 else bif decide (p.2.1 = 1) then 1 else bif decide (p.2.1 = 4) then 0 else 2
  | none => 9
def al9 (k : List UInt8) : Nat := match jq (k, ()) with
  | some (p, e, _) => bif !decide (e = 0) then 0 else bif decide (p.2.1 = 1) then 1 else bif decide (p.2.1 = 2) then 2 else bif decide (p.2.1 = 3) then 2 else 0
  | none => 9
theorem aoU (n : Int) (h0 : 0 <= n) (h1 : n < 256) : ao4 (oT n) = al9 (oT n) /\ al9 (oT n) <= 2 := by
  obtain ⟨m, rfl⟩ := Int.eq_ofNat_of_zero_le h0
  have hc : (List.range 256).all (fun k => decide (ao4 (oT ((k : Nat) : Int)) = al9 (oT ((k : Nat) : Int))) && decide (al9 (oT ((k : Nat) : Int)) <= 2)) = true := by kernel_rfl
  have := List.all_eq_true.1 hc m (List.mem_range.2 (by omega))
  simpa using this
def PcOK (p : aa) : Prop := ao4 p.1 = al9 p.1 /\ al9 p.1 <= 2 /\ p.2.1.length <= 64
def InS (s : api_Sum) : Prop := (0 <= s.1.1 /\ s.1.1 <= s.1.2.1 /\ s.1.2.1 <= 1000000000000000) /\ 0 <= s.2.1.1 /\ s.2.1.1 <= s.2.1.2.1 /\ s.2.1.2.1 <= 1000000000000000
theorem MadeM.form {m : ae} (h : MadeM m) : ∃ a k v f t s n, m = cH a k v f t s n /\ (0 <= a /\ a < 6) /\ (0 <= n /\ n < 8) /\ s.1.length <= 200 /\ s.2.1.length <= 200 := by
  obtain ⟨x, ⟨hx, -, h1, h2⟩, e⟩ := h
  obtain ⟨k, v, f, t, s, e2, -, -, -, l1, l2⟩ := ym x hx
  have e4 : m = _ := congrArg Prod.fst (Option.some.inj (e.symm.trans e2))
  have h3 := hx.1
  refine ⟨_, k, v, f, _, s, _, e4, ?_, ?_, l1, l2⟩
  · rw [Int.tmod_eq_emod_of_nonneg h3.1]
    omega
  · rw [Int.tmod_eq_emod_of_nonneg h1, dK (by omega)]
    omega
end D
open Go Go.X
namespace D
abbrev pk : aa -> List UInt8 := fun p => p.1
theorem alg (p : aa) : ∀ t : List aa, Srt pk t -> Srt pk (ins p t)
  | [], _ => List.pairwise_singleton _ _
  | x :: t, h => by
    unfold ins
    cases hb : Op.bytesLess x.1 p.1 with
    | true =>
      rw [cond_true]
      refine List.pairwise_cons.2 ⟨fun y hy => ?_, alg p t h.tail⟩
      rcases ahP p y t hy with rfl | hy
      · exact hb
      · exact h.head y hy
    | false =>
      rw [cond_false]
      refine List.pairwise_cons.2 ⟨fun y hy => ?_, List.Pairwise.filter _ h⟩
      obtain ⟨h1, h2⟩ := List.mem_filter.1 hy
      have hne : y.1 ≠ p.1 := by simpa using h2
      have hxy : Op.bytesLess y.1 x.1 = false := by
        rcases List.mem_cons.1 h1 with rfl | h1
        · exact cl _
        · exact iO (h.head y h1)
      show Op.bytesLess p.1 y.1 = true
      rcases dC p.1 y.1 with h3 | h3 | h3
      · exact h3
      · exact absurd h3.symm hne
      · -- y below p, p not above x: y below x
        rcases dC p.1 x.1 with h4 | h4 | h4
        · rw [bR h3 h4] at hxy; cases hxy
        · rw [h4] at h3; rw [h3] at hxy; cases hxy
        · rw [h4] at hb; cases hb
theorem amn (l : List aT) : Srt pk (sc l) := by
  have key : ∀ (l : List aT) (t : List aa), Srt pk t -> Srt pk (l.foldl (fun t x => ins (oJ x) t) t) := by
    intro l
    induction l with
    | nil => intro t h; exact h
    | cons x l ih => intro t h; exact ih _ (alg _ _ h)
  exact key l [] List.Pairwise.nil
structure TabOK (t : List aa) : Prop where
  len : t.length <= 1000
  srt : Srt pk t
  key : ∀ p ∈ t, 1 <= p.1.length /\ p.1.length <= 65535
  val : ∀ p ∈ t, p.2.1.length <= 64
  stamp : ∀ p ∈ t, 0 <= p.2.2.1 /\ p.2.2.1 <= 1000000000
  chg : ∀ p ∈ t, PcOK p
theorem ajO (n : Int) : (anB n).length <= 4 := by
  unfold anB
  obtain ⟨m, hm⟩ : ∃ m, (n % 4).toNat = m := ⟨_, rfl⟩
  have : m < 4 := by omega
  rw [hm]
  match m, this with
  | 0, _ => decide
  | 1, _ => decide
  | 2, _ => decide
  | 3, _ => decide
theorem an2 (l : List aT) (h : ∀ x ∈ l, raw24 x) (hl : l.length <= 1000) : TabOK (sc l) := by
  have hm : ∀ p ∈ sc l, ∃ y, raw24 y /\ p = oJ y := fun p hp => by
    obtain ⟨y, hy, e⟩ := acI l p hp
    exact ⟨y, h y hy, e⟩
  refine ⟨Nat.le_trans (acH l) hl, amn l, fun p hp => ?_, fun p hp => ?_, fun p hp => ?_, fun p hp => ?_⟩
  · obtain ⟨y, hy, rfl⟩ := hm p hp
    obtain ⟨-, k2, k3⟩ := aao y.1 hy.1.1 hy.1.2
    show 1 <= (oT y.1).length /\ (oT y.1).length <= 65535
    omega
  · obtain ⟨y, hy, rfl⟩ := hm p hp
    have := ajO y.2.1
    show (anB y.2.1).length <= 64
    omega
  · obtain ⟨y, hy, rfl⟩ := hm p hp
    show 0 <= y.2.2.1 % 4 /\ y.2.2.1 % 4 <= 1000000000
    omega
  · obtain ⟨y, hy, rfl⟩ := hm p hp
    have c := aoU y.1 hy.1.1 hy.1.2
    have := ajO y.2.1
    exact ⟨c.1, c.2, by show (anB y.2.1).length <= 64; omega⟩
theorem TabOK.inS {t : List aa} (h : TabOK t) (s : ac) : TabOK (inS s t) :=
  ⟨Nat.le_trans (adY s t) h.len, List.Pairwise.filter _ h.srt, fun p hp => h.key p (List.mem_filter.1 hp).1, fun p hp => h.val p (List.mem_filter.1 hp).1, fun p hp => h.stamp p (List.mem_filter.1 hp).1, fun p hp => h.chg p (List.mem_filter.1 hp).1⟩
theorem hM : ∀ (t : Ty) (x : t.den), Ty.eqb t x x = true
  | .bool, x => by simp [Ty.eqb]
  | .int _, x => by simp [Ty.eqb]
  | .str, x => by simp [Ty.eqb]
  | .pair a b, x => by simp [Ty.eqb, hM a, hM b]
  | .list _, _ => rfl
  | .unit, _ => rfl
  | .opq, _ => rfl
theorem ais {s : ac} (h : spanOK s) : fV (s, ()) = some (false, ()) := by
  unfold fV
  rcases h with h | h
  · simp only [h, decide_true, Bool.not_true, cond_false]
  · have h2 := iO h
    have h3 : ¬ s.2.1 = s.1 := fun e => by rw [e, cl] at h; cases h
    simp only [h2, aF h3, Bool.or_false]
    cases (!decide (s.2.1 = ([] : List UInt8))) <;> rfl
theorem ahi {a b c : Int} (h1 : b <= a) (h2 : a <= c) : uE (a, b, c, ()) = some (true, ()) := by
  simp only [uE, av h1, av h2, cond_true]
theorem ane (a b : List UInt8) : aX (a, b, ()) = some (bgn a b, ()) := by
  unfold bgn
  by_cases h : b.length <= a.length
  · have c1 : ((a.length : Int) >= (b.length : Int)) := by omega
    have c2 : ((0 : Int) <= (b.length : Int)) := by omega
    have c3 : ((b.length : Int) <= (a.length : Int)) := by omega
    simp only [aX, c1, c2, c3, av h, av, cond_true, Bool.and_self, Int.toNat_natCast, Bool.true_and, List.drop_zero, Int.toNat_zero]
  · have c1 : ¬ ((a.length : Int) >= (b.length : Int)) := by omega
    simp only [aX, c1, aF h, aF, cond_false, Bool.false_and, not_false_eq_true]
theorem afc : ∀ p ∈ paths5, 1 <= p.length /\ p.length <= 200 := by decide
theorem aiE {f t : List UInt8} (hf : f ∈ paths5) (ht : t ∈ paths5) (h : bgn f t = false /\ bgn t f = false) : tC (f, t, ()) = some (true, ()) := by
  obtain ⟨a1, a2⟩ := afc f hf
  obtain ⟨b1, b2⟩ := afc t ht
  have e1 := ahi (a := (f.length : Int)) (b := 1) (c := 200) (by omega) (by omega)
  have e2 := ahi (a := (t.length : Int)) (b := 1) (c := 200) (by omega) (by omega)
  simp only [tC, e1, e2, cond_true, gF, ane, h.1, h.2, Bool.not_false]
theorem alc {s : ac} (h : spanOK s) (h1 : s.1.length <= 200) (h2 : s.2.1.length <= 200) : xb (s, ()) = some (true, ()) := by
  have e : (decide ((if ((List.length s.1 : Int)) < ((List.length s.2.1 : Int)) then ((List.length s.2.1) : Int) else ((List.length s.1) : Int)) <= (65535 : Int))) = true := av (by split <;> omega)
  simp only [xb, ais h, Bool.not_false, cond_true, e]
theorem wX : ∀ k ∈ keys20, 1 <= k.length /\ k.length <= 100 := by
  have hlen : keys20.all (fun k => decide (1 <= k.length) && decide (k.length <= 100)) = true := by kernel_rfl
  intro k hk
  have := List.all_eq_true.1 hlen k hk
  simpa using this
theorem yr {k : List UInt8} (h : k ∈ keys20) : ol (k, ()) = some ((k, (k ++ [0], ())), ()) /\ gh (k, ()) = some ((k, (k ++ [0], ())), ()) := by
  have := (wX k h).2
  have e : (decide (List.length k + List.length ([0] : List UInt8) <= ai)) = true := av (by rw [aE]; simp; omega)
  exact ⟨by simp only [ol, e, cond_true], by simp only [gh, e, cond_true]⟩
theorem aeU {m : ae} (hm : MadeM m) : jL (m, ()) = some (true, ()) /\ ∃ R W : List ac, nf (m, ()) = some (R, ()) /\ ej (m, ()) = some (R, ()) /\ fQ (m, ()) = some (W, ()) /\ bj (m, ()) = some (W, ()) /\ R.length <= 2 /\ W.length <= 2 := by
  have hok := hm.ok
  obtain ⟨q, k, v, f, t, s, n, rfl, hq, hn, hs1, hs2⟩ := hm.form
  have cases6 : q = 0 \/ q = 1 \/ q = 2 \/ q = 3 \/ q = 4 \/ q = 5 := by omega
  rcases cases6 with rfl | rfl | rfl | rfl | rfl | rfl
  · have hkm : cH 0 k v f t s n = (1, k, v, ([], [], ()), [], [], n, ()) := rfl
    rw [hkm] at hok ⊢
    have hk : k ∈ keys20 := hok.key (.inl rfl)
    have hv : v.length <= 10 := hok.val rfl
    have e1 := ahi (a := (k.length : Int)) (b := 1) (c := 65535) (by have := (wX k hk).1; omega) (by have := (wX k hk).2; omega)
    have e2 := ahi (a := n) (b := 0) (c := 1000000000) (by omega) (by omega)
    have e3 : (decide ((((List.length v) : Int) : Int) <= (64 : Int))) = true := av (by omega)
    have f4 : (decide ((1 : Int) = 4)) = false := rfl
    have f5 : (decide ((1 : Int) = 5)) = false := rfl
    have f6 : (decide ((1 : Int) = 6)) = false := rfl
    exact ⟨by simp only [jL, sG, decide_true, cond_true, e1, e3, e2, uG, hM], [], [(k, (k ++ [0], ()))], by simp only [nf, zp, decide_true, cond_true], by simp only [ej, dr, f4, f5, f6, cond_false], by simp only [fQ, qA, decide_true, cond_true, (yr hk).1], by simp only [bj, bt, decide_true, cond_true, (yr hk).2], by simp, by simp⟩
  · have hkm : cH 1 k v f t s n = (2, k, [], ([], [], ()), [], [], 0, ()) := rfl
    rw [hkm] at hok ⊢
    have hk : k ∈ keys20 := hok.key (.inr rfl)
    have e1 := ahi (a := (k.length : Int)) (b := 1) (c := 65535) (by have := (wX k hk).1; omega) (by have := (wX k hk).2; omega)
    have f1 : (decide ((2 : Int) = 1)) = false := rfl
    have f4 : (decide ((2 : Int) = 4)) = false := rfl
    have f5 : (decide ((2 : Int) = 5)) = false := rfl
    have f6 : (decide ((2 : Int) = 6)) = false := rfl
    exact ⟨by simp only [jL, sC, f1, decide_true, cond_true, cond_false, e1, uD, hM], [], [(k, (k ++ [0], ()))], by simp only [nf, zo, f1, decide_true, cond_true, cond_false], by simp only [ej, dr, f4, f5, f6, cond_false], by simp only [fQ, qu, f1, decide_true, cond_true, cond_false, (yr hk).1], by simp only [bj, bt, f1, decide_true, cond_true, cond_false, (yr hk).2], by simp, by simp⟩
  · have hkm : cH 2 k v f t s n = (3, [], [], s, [], [], 0, ()) := rfl
    rw [hkm] at hok ⊢
    have hs : spanOK s := hok.span (.inl rfl)
    have e1 := alc hs hs1 hs2
    have f1 : (decide ((3 : Int) = 1)) = false := rfl
    have f2 : (decide ((3 : Int) = 2)) = false := rfl
    have f4 : (decide ((3 : Int) = 4)) = false := rfl
    have f5 : (decide ((3 : Int) = 5)) = false := rfl
    have f6 : (decide ((3 : Int) = 6)) = false := rfl
    exact ⟨by simp only [jL, qw, f1, f2, decide_true, cond_true, cond_false, e1, sD, hM], [], [s], by simp only [nf, xa, f1, f2, decide_true, cond_true, cond_false], by simp only [ej, dr, f4, f5, f6, cond_false], by simp only [fQ, oF, f1, f2, decide_true, cond_true, cond_false], by simp only [bj, bt, f1, f2, f4, f5, cond_false], by simp, by simp⟩
  · have hkm : cH 3 k v f t s n = (4, [], [], ([], [], ()), f, t, 0, ()) := rfl
    rw [hkm] at hok ⊢
    have hf := hok.from_ (.inl rfl)
    have ht := hok.to_ (.inl rfl)
    have e1 := aiE hf ht (hok.apart (.inl rfl))
    obtain ⟨p1, p2, -⟩ := kK f (fD f hf)
    obtain ⟨r1, r2, -⟩ := kK t (fD t ht)
    have f1 : (decide ((4 : Int) = 1)) = false := rfl
    have f2 : (decide ((4 : Int) = 2)) = false := rfl
    have f3 : (decide ((4 : Int) = 3)) = false := rfl
    exact ⟨by simp only [jL, qy, f1, f2, f3, decide_true, cond_true, cond_false, e1, sE, hM], [preS f], [preS f, preS t], by simp only [nf, xc, f1, f2, f3, decide_true, cond_true, cond_false, p1], by simp only [ej, dr, decide_true, cond_true, p2], by simp only [fQ, oG, f1, f2, f3, decide_true, cond_true, cond_false, p1, r1], by simp only [bj, bt, f1, f2, decide_true, cond_true, cond_false, p2, r2], by simp, by simp⟩
  · have hkm : cH 4 k v f t s n = (5, [], [], ([], [], ()), f, t, 0, ()) := rfl
    rw [hkm] at hok ⊢
    have hf := hok.from_ (.inr rfl)
    have ht := hok.to_ (.inr rfl)
    have e1 := aiE hf ht (hok.apart (.inr rfl))
    obtain ⟨p1, p2, -⟩ := kK f (fD f hf)
    obtain ⟨r1, r2, -⟩ := kK t (fD t ht)
    have f1 : (decide ((5 : Int) = 1)) = false := rfl
    have f2 : (decide ((5 : Int) = 2)) = false := rfl
    have f3 : (decide ((5 : Int) = 3)) = false := rfl
    have f4 : (decide ((5 : Int) = 4)) = false := rfl
    exact ⟨by simp only [jL, oE, f1, f2, f3, f4, decide_true, cond_true, cond_false, e1, qs, hM], [preS f], [preS t], by simp only [nf, vH, f1, f2, f3, f4, decide_true, cond_true, cond_false, p1], by simp only [ej, dr, f4, decide_true, cond_true, cond_false, p2], by simp only [fQ, ng, f1, f2, f3, f4, decide_true, cond_true, cond_false, r1], by simp only [bj, bt, f1, f2, f4, decide_true, cond_true, cond_false, r2], by simp, by simp⟩
  · have hkm : cH 5 k v f t s n = (6, [], [], s, [], [], n, ()) := rfl
    rw [hkm] at hok ⊢
    have hs : spanOK s := hok.span (.inr rfl)
    have e1 := alc hs hs1 hs2
    have e2 := ahi (a := n) (b := 0) (c := 1000000000) (by omega) (by omega)
    have f1 : (decide ((6 : Int) = 1)) = false := rfl
    have f2 : (decide ((6 : Int) = 2)) = false := rfl
    have f3 : (decide ((6 : Int) = 3)) = false := rfl
    have f4 : (decide ((6 : Int) = 4)) = false := rfl
    have f5 : (decide ((6 : Int) = 5)) = false := rfl
    exact ⟨by simp only [jL, oI, f1, f2, f3, f4, f5, decide_true, cond_true, cond_false, e1, e2, qD, hM], [s], [s], by simp only [nf, vK, f1, f2, f3, f4, f5, decide_true, cond_true, cond_false], by simp only [ej, dr, f4, f5, decide_true, cond_true, cond_false], by simp only [fQ, nh, f1, f2, f3, f4, f5, decide_true, cond_true, cond_false], by simp only [bj, bt, f1, f2, f4, f5, cond_false], by simp, by simp⟩
def PivOK (ps : List (List UInt8)) (s : ac) : Prop := ∀ i (h : i < ps.length), Op.bytesLess (List.getD (s.1 :: ps) i []) ps[i] = true /\ (s.2.1 = [] \/ Op.bytesLess ps[i] s.2.1 = true)
def goodS : List (List (List UInt8)) -> ac -> Bool
  | [], _ => true
  | P :: pv, s => (match span_Parts (s, mineOf P s, ()) with
      | some (l, _) => decide (l = partsOf s (mineOf P s))
      | none => false) && (partsOf s (mineOf P s)).all (goodS pv)
theorem anR : ∀ pv ∈ LV, goodS pv sp0 = true := by
  have h : LV.all (fun pv => goodS pv sp0) = true := by kernel_rfl
  exact fun pv hp => List.all_eq_true.1 h pv hp
theorem aeH {P : List (List UInt8)} {pv : List (List (List UInt8))} {s : ac} (h : goodS (P :: pv) s = true) : span_Parts (s, mineOf P s, ()) = some (partsOf s (mineOf P s), ()) /\ ∀ q ∈ partsOf s (mineOf P s), goodS pv q = true := by
  rw [goodS, Bool.and_eq_true] at h
  obtain ⟨h1, h2⟩ := h
  refine ⟨?_, fun q hq => List.all_eq_true.1 h2 q hq⟩
  cases e : span_Parts (s, mineOf P s, ()) with
  | none => rw [e] at h1; cases h1
  | some r =>
    obtain ⟨l, u⟩ := r
    rw [e] at h1
    have : l = partsOf s (mineOf P s) := of_decide_eq_true h1
    rw [this]
theorem aib {n : api_Node} {s : ac} {l : List ac} (h0 : n.2.2.1 ≠ []) (h : span_Parts (s, n.2.1, ()) = some (l, ())) : kR (n, s, ()) = some (l, ()) := by
  have e0 : (decide ((((List.length n.2.2.1) : Int) : Int) = (0 : Int))) = false := aF (by
    have := List.length_pos_iff.2 h0
    omega)
  simp only [kR, e0, cond_false, h]
theorem ali {ks : List Nat} (h : 0 < ks.length) : kidsI ks ≠ [] := by
  intro e
  have := congrArg List.length e
  rw [bi, List.length_nil] at this
  omega
theorem TreeS.set {ns : List api_Node} {t : List aa} {r : Nat} (N : api_Node) : ∀ {pv : List (List (List UInt8))} {s : ac} {i : Nat}, i < r -> TreeS ns t pv s i -> TreeS (ns.set r N) t pv s i
  | [], s, i, hi, h => by
    show (ns.set r N)[i]? = _
    rw [List.getElem?_set_ne (by omega)]
    exact h
  | P :: pv, s, i, hi, ⟨ks, sums, buf, h1, h2, h3, h4, h5, h6, h7, h8⟩ => by
    refine ⟨ks, sums, buf, ?_, h2, h3, h4, h5, h6, h7, fun j hj => ?_⟩
    · rw [List.getElem?_set_ne (by omega)]
      exact h1
    · have hk : ks.getD j 0 < i := by
        rw [aK hj]
        exact h5 _ (List.getElem_mem hj)
      obtain ⟨c1, n, c2, c3⟩ := h8 j hj
      exact ⟨c1.set N (by omega), n, by rw [List.getElem?_set_ne (by omega)]; exact c2, c3⟩
structure apf (ns : List api_Node) (t : List aa) (P : List (List UInt8)) (pv : List (List (List UInt8))) (root : Nat) (ks : List Nat) (sums : List api_Sum) (buf : List ae) : Prop where
  n : ns[root]? = some ([], mineOf P sp0, kidsI ks, sums, buf, ())
  kl : ks.length = (mineOf P sp0).length + 1
  sl : sums.length = ks.length
  ml : (mineOf P sp0).length <= 5
  piv : PivOK (mineOf P sp0) sp0
  lt : ∀ k ∈ ks, k < root
  r : root < 900
  ins : ∀ q ∈ sums, InS q
  bl : buf.length <= 5
  buf : ∀ m ∈ buf, MadeM m /\ ref08_Lies (m, sp0, ()) = some (true, ())
  kid : ∀ j, j < ks.length -> TreeS ns t pv (List.getD (partsOf sp0 (mineOf P sp0)) j sp0) (ks.getD j 0) /\ SumAt ns (ks.getD j 0) (List.getD sums j sum0)
  sp : span_Parts (sp0, mineOf P sp0, ()) = some (partsOf sp0 (mineOf P sp0), ())
  pl : (partsOf sp0 (mineOf P sp0)).length = (mineOf P sp0).length + 1
  good : ∀ q ∈ partsOf sp0 (mineOf P sp0), goodS pv q = true
section
variable {ns : List api_Node} {t : List aa} {P : List (List UInt8)} {pv : List (List (List UInt8))} {root : Nat} {ks : List Nat} {sums : List api_Sum} {buf : List ae}
end
theorem akX {x y : List UInt8} : (ago x y < 0) ↔ Op.bytesLess x y = true := by
  unfold ago
  split
  · simp [*]
  · rename_i h
    split
    · rename_i he; subst he; simp [cl]
    · simp [h]
theorem bsP (l : List aa) (k : List UInt8) (hs : Srt pk l) (hl : l.length < 1000000000) :
    bd (l, k, ()) = some ((lbK pk k l : Int), kd (key := pk) k l, ()) := by
  have hle := uB (key := pk) k l
  obtain ⟨r, h1, h2⟩ := ahk (b := aY) (fun s => (s.2.2.2.2.1 - s.2.2.2.1).toNat)
    (fun s => ∃ I J : Nat, s = (l, k, (l.length : Int), (I : Int), (J : Int), ()) /\ I <= J /\ J <= l.length /\ (∀ (m : Nat) (h : m < l.length), m < I -> Op.bytesLess (l[m]).1 k = true) /\ (∀ (m : Nat) (h : m < l.length), J <= m -> Op.bytesLess (l[m]).1 k = false))
    (fun r => r = .inl (l, k, (l.length : Int), (lbK pk k l : Int), ()))
    (fun s hi => by
      obtain ⟨I, J, rfl, i1, i2, i3, i4⟩ := hi
      have hm := aoE (I := I) (J := J) (by omega)
      unfold aY
      simp only [hm]
      by_cases hij : I < J
      · left
        have c1 : ((I : Int) < (J : Int)) := by omega
        have w1 : IntKind.i64.wrap (((I + J) / 2 : Nat) : Int) = (((I + J) / 2 : Nat) : Int) := dK (by omega)
        have c2 : ((0 : Int) <= (((I + J) / 2 : Nat) : Int)) := by omega
        have c3 : ((((I + J) / 2 : Nat) : Int) < (l.length : Int)) := by omega
        have hlt : (I + J) / 2 < l.length := by omega
        have hg : List.getD l ((I + J) / 2) (([] : List UInt8), (([] : List UInt8), ((0 : Int), ()))) = l[(I + J) / 2] := aK hlt
        have w2 : IntKind.i64.wrap ((((I + J) / 2 : Nat) : Int) + 1) = (((I + J) / 2 + 1 : Nat) : Int) := by rw [dK (by omega)]; omega
        simp only [w1, c1, c2, c3, av, cond_true, Bool.and_self, Int.toNat_natCast, hg, afe, w2]
        cases hb : Op.bytesLess (l[(I + J) / 2]).1 k
        · have c4 : ¬ (ago (l[(I + J) / 2]).1 k < 0) := by rw [akX, hb]; simp
          simp only [c4, aF, cond_false, not_false_eq_true]
          refine ⟨_, rfl, ⟨I, (I + J) / 2, rfl, by omega, by omega, i3, fun m h hm => ?_⟩, by simp; omega⟩
          rcases Nat.lt_or_ge m J with h5 | h5
          · cases hb2 : Op.bytesLess (l[m]).1 k
            · rfl
            · rcases Nat.eq_or_lt_of_le hm with h6 | h6
              · subst h6; rw [hb] at hb2; cases hb2
              · have h7 : Op.bytesLess (l[(I + J) / 2]).1 (l[m]).1 = true := List.pairwise_iff_getElem.1 hs _ _ hlt h h6
                have := bR h7 hb2
                rw [hb] at this; cases this
          · exact i4 m h h5
        · have c4 : (ago (l[(I + J) / 2]).1 k < 0) := by rw [akX, hb]
          simp only [c4, av, cond_true]
          refine ⟨_, rfl, ⟨(I + J) / 2 + 1, J, rfl, by omega, i2, fun m h hm => ?_, i4⟩, by simp; omega⟩
          rcases Nat.eq_or_lt_of_le (show m <= (I + J) / 2 by omega) with h6 | h6
          · subst h6; exact hb
          · have h7 : Op.bytesLess (l[m]).1 (l[(I + J) / 2]).1 = true := List.pairwise_iff_getElem.1 hs _ _ h hlt h6
            exact bR h7 hb
      · right
        have c1 : ¬ ((I : Int) < (J : Int)) := by omega
        have he : I = J := by omega
        subst he
        simp only [c1, aF, cond_false, not_false_eq_true]
        refine ⟨_, rfl, ?_⟩
        have := aeQ (key := pk) k l hs I i2 i3 i4
        rw [this])
    (l, k, (l.length : Int), (0 : Int), (l.length : Int), ()) ⟨0, l.length, by simp, by omega, by omega, fun m h hm => by omega, fun m h hm => by omega⟩ (by simp; omega)
  subst h2
  unfold bd b9
  simp only [h1]
  by_cases hlt : lbK pk k l < l.length
  · have c1 : ((lbK pk k l : Int) < (l.length : Int)) := by omega
    have c2 : ((0 : Int) <= (lbK pk k l : Int)) := by omega
    have hg : List.getD l (lbK pk k l) (([] : List UInt8), (([] : List UInt8), ((0 : Int), ()))) = l[lbK pk k l] := aK hlt
    simp only [c1, c2, av, cond_true, Bool.and_self, Int.toNat_natCast, hg, afe]
    rw [alf k l hs hlt]
    congr 2
    have : (ago (l[lbK pk k l]).1 k = 0) ↔ (l[lbK pk k l]).1 = k := anK
    simp only [this]
  · have c1 : ¬ ((lbK pk k l : Int) < (l.length : Int)) := by omega
    simp only [c1, aF, cond_false, not_false_eq_true]
    rw [aeI k l (by omega)]
theorem aff (l : List aa) (k : List UInt8) (hs : Srt pk l) (hl : l.length < 1000000000) : jA (l, k, ()) = some ((lbK pk k l : Int), kd (key := pk) k l, ()) := by
  unfold jA
  simp only [bsP l k hs hl]
section
variable {α : Type} {key : α -> List UInt8}
theorem abO (k : List UInt8) : ∀ l : List α, Srt key l -> l.take (lbK key k l) = l.filter fun a => Op.bytesLess (key a) k
  | [], _ => rfl
  | a :: l, hs => by
    unfold lbK
    by_cases h : Op.bytesLess (key a) k = true
    · rw [if_pos h, List.take_succ_cons, abO k l hs.tail, List.filter_cons, if_pos h]
    · rw [if_neg h, List.take_zero]
      symm
      rw [List.filter_eq_nil_iff]
      intro b hb hlt
      rcases List.mem_cons.1 hb with rfl | hb
      · exact h hlt
      · exact h (bR (hs.head b hb) hlt)
theorem adW (k : List UInt8) : ∀ l : List α, Srt key l -> l.drop (lbK key k l) = l.filter fun a => !Op.bytesLess (key a) k
  | [], _ => rfl
  | a :: l, hs => by
    unfold lbK
    by_cases h : Op.bytesLess (key a) k = true
    · rw [if_pos h, List.drop_succ_cons, adW k l hs.tail, List.filter_cons, if_neg (by rw [h]; simp)]
    · rw [if_neg h, List.drop_zero]
      symm
      rw [List.filter_eq_self]
      intro b hb
      rcases List.mem_cons.1 hb with rfl | hb
      · simpa using h
      · cases hlt : Op.bytesLess (key b) k
        · rfl
        · exact absurd (bR (hs.head b hb) hlt) h
theorem ajg {lo hi : List UInt8} (h : Op.bytesLess lo hi = true) : ∀ l : List α, Srt key l -> lbK key lo l <= lbK key hi l
  | [], _ => Nat.le_refl _
  | a :: l, hs => by
    unfold lbK
    have ih := ajg h l hs.tail
    by_cases h1 : Op.bytesLess (key a) lo = true
    · rw [if_pos h1, if_pos (bR h1 h)]; omega
    · rw [if_neg h1]; omega
theorem aoF {lo hi : List UInt8} (h : Op.bytesLess lo hi = true) (l : List α) (hs : Srt key l) : (l.take (lbK key hi l)).drop (lbK key lo l) = l.filter fun a => !Op.bytesLess (key a) lo && Op.bytesLess (key a) hi := by
  have e : lbK key lo (l.take (lbK key hi l)) = lbK key lo l := by
    symm
    have hle := ajg h l hs
    have hle2 := uB (key := key) hi l
    apply aeQ lo _ (List.Pairwise.sublist (List.take_sublist _ _) hs)
    · rw [List.length_take]; omega
    · intro m hm h1
      rw [List.getElem_take]
      exact aks lo l m (by rw [List.length_take] at hm; omega) h1
    · intro m hm h1
      rw [List.getElem_take]
      exact akr lo l hs m (by rw [List.length_take] at hm; omega) h1
  conv => lhs; rw [<- e]
  rw [adW lo _ (List.Pairwise.sublist (List.take_sublist _ _) hs), abO hi l hs, List.filter_filter]
end
theorem ahM (s : ac) (k : List UInt8) : tM (s, k, ()) = some (er s k, ()) := by
  unfold tM er
  cases Op.bytesLess k s.1 <;> cases decide ((s.2.1 : List UInt8) = []) <;> simp
theorem aiN (s : ac) (h : spanOK s) : fV (s, ()) = some (false, ()) := by
  unfold fV
  rcases h with h | h
  · have : decide ((s.2.1 : List UInt8) = []) = true := av h
    simp only [this, Bool.not_true, cond_false]
  · have hn : s.2.1 ≠ [] := by
      intro e; rw [e] at h
      cases s.1 <;> simp [Op.bytesLess] at h
    have : decide ((s.2.1 : List UInt8) = []) = false := aF hn
    have h2 : decide ((s.2.1 : List UInt8) = s.1) = false := aF (fun e => oA h e.symm)
    simp only [this, Bool.not_false, cond_true, iO h, h2, Bool.or_self]
theorem amb (t : List aa) (s : ac) (h : spanOK s) (hs : Srt pk t) (hl : t.length < 1000000000) : sd (t, s, ()) = some (t.filter (fun p => er s p.1), ()) := by
  have h1 := uB (key := pk) s.1 t
  have h2 := uB (key := pk) s.2.1 t
  unfold sd mM
  simp only [aiN s h, cond_false, aff t _ hs hl]
  by_cases hn : s.2.1 = []
  · have c : decide ((s.2.1 : List UInt8) = []) = true := av hn
    have c1 : ((0 : Int) <= (lbK pk s.1 t : Int)) := by omega
    have c2 : ((lbK pk s.1 t : Int) <= (t.length : Int)) := by omega
    simp only [c, Bool.not_true, cond_false, c1, c2, av, Bool.and_self, cond_true, Int.le_refl, Int.toNat_natCast, List.take_length]
    rw [adW s.1 t hs]
    congr 2
    apply List.filter_congr
    intro p _
    unfold er
    simp [hn, pk]
  · have hlt := h.resolve_left hn
    have h3 := ajg (key := pk) hlt t hs
    have c : decide ((s.2.1 : List UInt8) = []) = false := aF hn
    have c1 : ((0 : Int) <= (lbK pk s.1 t : Int)) := by omega
    have c2 : ((lbK pk s.1 t : Int) <= (lbK pk s.2.1 t : Int)) := by omega
    have c3 : ((lbK pk s.2.1 t : Int) <= (t.length : Int)) := by omega
    simp only [c, Bool.not_false, cond_true, c1, c2, c3, av, Bool.and_self, Int.toNat_natCast]
    rw [aoF hlt t hs]
    congr 2
    apply List.filter_congr
    intro p _
    unfold er
    simp [hn, pk]
section
variable {α : Type} {key : α -> List UInt8}
theorem abe {x : α} : ∀ {l : List α}, (∀ b ∈ l, Op.bytesLess (key b) (key x) = true) -> lW key x l = l ++ [x]
  | [], _ => rfl
  | a :: l, h => by
    unfold lW
    rw [if_neg (by rw [iO (h a List.mem_cons_self)]; simp), abe (fun b hb => h b (List.mem_cons_of_mem _ hb))]
    rfl
theorem acx {x a : α} (h : Op.bytesLess (key x) (key a) = true) : ∀ l : List α, lW key x (l ++ [a]) = lW key x l ++ [a]
  | [] => by simp [lW, h]
  | b :: l => by
    have ih := acx h l
    simp only [List.cons_append, lW]
    by_cases hb : Op.bytesLess (key x) (key b) = true
    · rw [if_pos hb, if_pos hb]; rfl
    · rw [if_neg hb, if_neg hb, ih]; rfl
theorem agb {k : List UInt8} {a : α} (l : List α) : woK key k (l ++ [a]) = woK key k l ++ (if key a = k then [] else [a]) := by
  unfold woK
  rw [List.filter_append]
  congr 1
  by_cases h : key a = k <;> simp [h]
end
theorem aeM (t : List aa) (p : aa) (hs : Srt pk t) (hl : t.length < 1000000) : mi (t, p, ()) = some (lW pk p (woK pk p.1 t), ()) := by
  obtain ⟨r, h1, h2⟩ := aU (b := eK) (fun i (s : Bool × List aa) => (t, s.1, (i : Int), p, s.2, ())) t.length
    (fun i s => s.2.length <= i + 1 /\ (s.1 = false -> s.2 = t.take i /\ ∀ b ∈ t.take i, Op.bytesLess b.1 p.1 = true) /\ (s.1 = true -> s.2 = lW pk p (woK pk p.1 (t.take i)) /\ ∃ b ∈ t.take i, Op.bytesLess b.1 p.1 = false))
    (fun r => ∃ d o, r = .inl (d, p, o, ()) /\ o.length <= t.length + 1 /\ (bif d then o else o ++ [p]) = lW pk p (woK pk p.1 t)) (by omega)
    (fun i hi s hs' => by
      left
      obtain ⟨d, o⟩ := s
      obtain ⟨ho, hf, htr⟩ := hs'
      have ho : o.length <= i + 1 := ho
      have c1 : ((i : Int) < (t.length : Int)) := by omega
      have c2 : ((0 : Int) <= (i : Int)) := by omega
      have hg : List.getD t i (([] : List UInt8), (([] : List UInt8), ((0 : Int), ()))) = t[i] := aK hi
      have w := wr1 i (by omega)
      have room : ∀ (o : List aa) (q : aa), o.length <= i + 2 -> (o.length + ([q] : List aa).length) * 40 <= ai := fun o q h => by rw [aE]; simp; omega
      have htk : t.take (i + 1) = t.take i ++ [t[i]] := bq hi
      have hless : ∀ b ∈ t.take i, Op.bytesLess b.1 (t[i]).1 = true := by
        intro b hb
        obtain ⟨j, hj, rfl⟩ := List.getElem_of_mem hb
        rw [List.getElem_take]
        rw [List.length_take] at hj
        exact List.pairwise_iff_getElem.1 hs j i (by omega) hi (by omega)
      have j0 : ∀ (d : Bool) (o : List aa), o.length <= i + 2 -> iG (t, d, (i : Int), p, o, ()) = some (.inl (t, d, ((i + 1 : Nat) : Int), p, (if (t[i]).1 = p.1 then o else o ++ [t[i]]), ())) := by
        intro d o h
        unfold iG
        by_cases he : (t[i]).1 = p.1
        · simp only [c1, c2, av, cond_true, Bool.and_self, Int.toNat_natCast, hg, w, he, Bool.not_true, cond_false, if_pos]
        · simp only [c1, c2, av, cond_true, Bool.and_self, Int.toNat_natCast, hg, w, aF he, Bool.not_false, room o _ h, if_neg he]
      cases d with
      | false =>
        obtain ⟨rfl, hall⟩ := hf rfl
        have hw : woK pk p.1 (t.take i) = t.take i := by
          apply abS
          rw [kd, List.any_eq_false]
          intro b hb
          have := oA (hall b hb)
          simpa using this
        have hb0 : ∀ c, c = (Op.bytesLess p.1 (t[i]).1 || decide (p.1 = (t[i]).1)) -> eK (t, false, (i : Int), p, t.take i, ()) = cV (t, false, (i : Int), c, p, t.take i, ()) := by
          intro c hc
          unfold eK
          simp only [c1, c2, av, cond_true, Bool.and_self, Int.toNat_natCast, hg, Bool.not_false, hc]
        have hlen : (t.take i).length <= i := by rw [List.length_take]; omega
        by_cases hlt : Op.bytesLess p.1 (t[i]).1 = true
        · have hne : ¬ (t[i]).1 = p.1 := fun e => oA hlt e.symm
          refine ⟨(true, t.take i ++ [p] ++ [t[i]]), ⟨by simp; omega, (by intro h; cases h), fun _ => ⟨?_, t[i], by rw [htk]; exact List.mem_append_right _ (List.mem_singleton.2 rfl), iO hlt⟩⟩, ?_⟩
          · rw [htk, agb, if_neg hne, hw, acx (key := pk) hlt, abe (key := pk) hall]
          · rw [hb0 true (by rw [hlt]; rfl)]
            unfold cV
            simp only [cond_true, room (t.take i) p (by omega), av]
            rw [j0 true _ (by simp; omega), if_neg hne]
        · have hlt : Op.bytesLess p.1 (t[i]).1 = false := by simpa using hlt
          by_cases he : (t[i]).1 = p.1
          · refine ⟨(true, t.take i ++ [p]), ⟨by simp; omega, (by intro h; cases h), fun _ => ⟨?_, t[i], by rw [htk]; exact List.mem_append_right _ (List.mem_singleton.2 rfl), by rw [he]; exact cl _⟩⟩, ?_⟩
            · rw [htk, agb, if_pos he, List.append_nil, hw, abe (key := pk) hall]
            · rw [hb0 true (by rw [hlt, av he.symm]; rfl)]
              unfold cV
              simp only [cond_true, room (t.take i) p (by omega), av]
              rw [j0 true _ (by simp; omega), if_pos he]
          · have hlt2 : Op.bytesLess (t[i]).1 p.1 = true := by
              rcases dC p.1 (t[i]).1 with h | h | h
              · rw [h] at hlt; cases hlt
              · exact absurd h.symm he
              · exact h
            refine ⟨(false, t.take i ++ [t[i]]), ⟨by simp; omega, fun _ => ⟨htk.symm, ?_⟩, by intro h; cases h⟩, ?_⟩
            · rw [htk]
              intro b hb
              rcases List.mem_append.1 hb with hb | hb
              · exact hall b hb
              · obtain rfl := List.mem_singleton.1 hb; exact hlt2
            · rw [hb0 false (by rw [hlt, aF (fun e => he e.symm)]; rfl)]
              unfold cV
              simp only [cond_false]
              rw [j0 false _ (by omega), if_neg he]
      | true =>
        obtain ⟨rfl, b, hb, hbp⟩ := htr rfl
        have hbt := hless b hb
        have hpt : Op.bytesLess p.1 (t[i]).1 = true := by
          rcases dC p.1 b.1 with h | h | h
          · exact bR h hbt
          · rw [h]; exact hbt
          · rw [h] at hbp; cases hbp
        have hne : ¬ (t[i]).1 = p.1 := fun e => oA hpt e.symm
        refine ⟨(true, lW pk p (woK pk p.1 (t.take i)) ++ [t[i]]), ⟨?_, (by intro h; cases h), fun _ => ⟨?_, b, by rw [htk]; exact List.mem_append_left _ hb, hbp⟩⟩, ?_⟩
        · rw [List.length_append, abf]
          have hw : ((woK pk p.1 (t.take i)).length) + 1 <= i + 1 := by
            have := ho; rw [abf] at this; exact this
          simp; omega
        · rw [htk, agb, if_neg hne, acx (key := pk) hpt]
        · unfold eK cV
          simp only [c1, av, cond_true, cond_false, Bool.not_true]
          rw [j0 true _ (by omega), if_neg hne])
    (fun s hs' => by
      obtain ⟨d, o⟩ := s
      obtain ⟨ho, hf, htr⟩ := hs'
      have ho : o.length <= t.length + 1 := ho
      have c1 : ¬ ((t.length : Int) < (t.length : Int)) := by omega
      refine ⟨.inl (d, p, o, ()), ⟨d, o, rfl, ho, ?_⟩, ?_⟩
      · cases d with
        | true =>
          have e := (htr rfl).1
          rw [List.take_length] at e
          exact e
        | false =>
          obtain ⟨e, hall⟩ := hf rfl
          rw [List.take_length] at e hall
          have e : o = t := e
          subst e
          have hw : woK pk p.1 o = o := by
            apply abS
            rw [kd, List.any_eq_false]
            intro b hb
            have := oA (hall b hb)
            simpa using this
          rw [hw, abe (key := pk) hall]; rfl
      · unfold eK
        simp only [c1, aF, cond_false, not_false_eq_true]) (false, []) ⟨by simp, fun _ => by simp, by intro h; cases h⟩
  obtain ⟨d, o, rfl, ho, he⟩ := h2
  have h1 : aR eK (t, false, (0 : Int), p, ([] : List aa), ()) = some (.inl (d, p, o, ())) := h1
  unfold mi vT
  simp only [h1]
  rw [<- he]
  cases d with
  | true => simp
  | false =>
    have c3 : (o.length + ([p] : List aa).length) * 40 <= ai := by rw [aE]; simp; omega
    simp only [Bool.not_false, cond_true, c3, av, cond_false]
theorem amK (l : List ac) (k : List UInt8) (hl : l.length < 1000000) : abz (l, k, ()) = some (l.any (fun s => er s k), ()) := by
  obtain ⟨r, h1, h2⟩ := aU (b := nZ) (fun i (s : Unit) => (l, k, (i : Int), ())) l.length (fun i s => (l.take i).any (fun s => er s k) = false)
    (fun r => (r = .inl (true, ()) /\ l.any (fun s => er s k) = true) \/ (r = .inr () /\ l.any (fun s => er s k) = false)) (by omega)
    (fun i hi s hs => by
      have c1 : ((i : Int) < (l.length : Int)) := by omega
      have c2 : ((0 : Int) <= (i : Int)) := by omega
      have hg : List.getD l i (([] : List UInt8), (([] : List UInt8), ())) = l[i] := aK hi
      have w := wr1 i (by omega)
      unfold nZ
      simp only [c1, c2, av, cond_true, Bool.and_self, Int.toNat_natCast, hg, w, ahM]
      cases h : er l[i] k
      · left
        refine ⟨(), ?_, by simp⟩
        rw [bq hi, List.any_append, hs]; simp [h]
      · right
        refine ⟨.inl (true, ()), .inl ⟨rfl, ?_⟩, by simp⟩
        rw [List.any_eq_true]
        exact ⟨l[i], List.getElem_mem hi, h⟩)
    (fun s hs => by
      have c1 : ¬ ((l.length : Int) < (l.length : Int)) := by omega
      rw [List.take_length] at hs
      refine ⟨.inr (), .inr ⟨rfl, hs⟩, ?_⟩
      unfold nZ
      simp only [c1, aF, cond_false, not_false_eq_true]) () (by simp)
  have h1 : aR nZ (l, k, (0 : Int), ()) = some r := h1
  unfold abz adk
  rw [h1]
  rcases h2 with ⟨rfl, he⟩ | ⟨rfl, he⟩
  · rw [he]
  · rw [he]
theorem yh (t : List aa) (l : List ac) (ht : t.length < 1000000) (hl : l.length < 1000000) : gI (t, l, ()) = some (t.filter (fun p => !l.any (fun s => er s p.1)), ()) := by
  obtain ⟨r, h1, h2⟩ := aU (b := ij) (fun i (o : List aa) => (t, l, (i : Int), o, ())) t.length (fun i o => o = (t.take i).filter (fun p => !l.any (fun s => er s p.1)))
    (fun r => r = .inl (t.filter (fun p => !l.any (fun s => er s p.1)), ())) (by omega)
    (fun i hi o ho => by
      left
      have c1 : ((i : Int) < (t.length : Int)) := by omega
      have c2 : ((0 : Int) <= (i : Int)) := by omega
      have hg : List.getD t i (([] : List UInt8), (([] : List UInt8), ((0 : Int), ()))) = t[i] := aK hi
      have w := wr1 i (by omega)
      have hlen : o.length <= i := by
        rw [ho]
        have h1 := List.length_filter_le (fun p : aa => !l.any (fun s => er s p.1)) (t.take i)
        rw [List.length_take] at h1; omega
      have room : (o.length + ([t[i]] : List aa).length) * 40 <= ai := by rw [aE]; simp; omega
      unfold ij
      simp only [c1, c2, av, cond_true, Bool.and_self, Int.toNat_natCast, hg, w, amK l _ hl, room]
      rw [bq hi, List.filter_append, <- ho]
      cases h : l.any (fun s => er s (t[i]).1)
      · exact ⟨_, rfl, by simp [h]⟩
      · exact ⟨_, rfl, by simp [h]⟩)
    (fun o ho => by
      have c1 : ¬ ((t.length : Int) < (t.length : Int)) := by omega
      rw [List.take_length] at ho
      subst ho
      refine ⟨_, rfl, ?_⟩
      unfold ij
      simp only [c1, aF, cond_false, not_false_eq_true]) [] (by simp)
  subst h2
  have h1 : aR ij (t, l, (0 : Int), ([] : List aa), ()) = _ := h1
  unfold gI tO
  simp only [h1]
theorem akN (t : List aa) (l : List ac) (ht : t.length < 1000000) (hl : l.length < 1000000) : pw (t, l, ()) = some (t.filter (fun p => l.any (fun s => er s p.1)), ()) := by
  obtain ⟨r, h1, h2⟩ := aU (b := iL) (fun i (o : List aa) => (t, l, (i : Int), o, ())) t.length (fun i o => o = (t.take i).filter (fun p => l.any (fun s => er s p.1)))
    (fun r => r = .inl (t.filter (fun p => l.any (fun s => er s p.1)), ())) (by omega)
    (fun i hi o ho => by
      left
      have c1 : ((i : Int) < (t.length : Int)) := by omega
      have c2 : ((0 : Int) <= (i : Int)) := by omega
      have hg : List.getD t i (([] : List UInt8), (([] : List UInt8), ((0 : Int), ()))) = t[i] := aK hi
      have w := wr1 i (by omega)
      have hlen : o.length <= i := by
        rw [ho]
        have h1 := List.length_filter_le (fun p : aa => l.any (fun s => er s p.1)) (t.take i)
        rw [List.length_take] at h1; omega
      have room : (o.length + ([t[i]] : List aa).length) * 40 <= ai := by rw [aE]; simp; omega
      unfold iL
      simp only [c1, c2, av, cond_true, Bool.and_self, Int.toNat_natCast, hg, w, amK l _ hl, room]
      rw [bq hi, List.filter_append, <- ho]
      cases h : l.any (fun s => er s (t[i]).1)
      · exact ⟨_, rfl, by simp [h]⟩
      · exact ⟨_, rfl, by simp [h]⟩)
    (fun o ho => by
      have c1 : ¬ ((t.length : Int) < (t.length : Int)) := by omega
      rw [List.take_length] at ho
      subst ho
      refine ⟨_, rfl, ?_⟩
      unfold iL
      simp only [c1, aF, cond_false, not_false_eq_true]) [] (by simp)
  subst h2
  have h1 : aR iL (t, l, (0 : Int), ([] : List aa), ()) = _ := h1
  unfold pw vV
  simp only [h1]
structure aaO (p : List UInt8) : Prop where
  pre : span_Prefix (p, ()) = some (preS p, ())
  pre2 : ref02_Prefix (p, ()) = some (preS p, ())
  sh : p = [] \/ p = p.dropLast ++ [47]
theorem y5 {p : List UInt8} (h : p ∈ six) : aaO p := ⟨(kK p h).1, (kK p h).2.1, (kK p h).2.2⟩
theorem lU {k p : List UInt8} : bgn k p = true ↔ ∃ r, k = p ++ r := by
  unfold bgn
  rw [Bool.and_eq_true, decide_eq_true_eq, decide_eq_true_eq]
  constructor
  · rintro ⟨_, h⟩
    exact ⟨k.drop p.length, by conv => lhs; rw [<- List.take_append_drop p.length k, h]⟩
  · rintro ⟨r, rfl⟩
    simp
theorem anI {k p q : List UInt8} (h1 : bgn k p = true) (h2 : bgn k q = true) : bgn p q = true \/ bgn q p = true := by
  obtain ⟨r, rfl⟩ := lU.1 h1
  obtain ⟨s, e⟩ := lU.1 h2
  rcases List.append_eq_append_iff.1 e with ⟨a, h3, h4⟩ | ⟨a, h3, h4⟩
  · right; exact lU.2 ⟨a, h3⟩
  · left; exact lU.2 ⟨a, h3⟩
theorem aes (p a b : List UInt8) : Op.bytesLess (p ++ a) (p ++ b) = Op.bytesLess a b := by
  induction p with
  | nil => rfl
  | cons x p ih => simp [Op.bytesLess, ih]
def mvK (f t k : List UInt8) : List UInt8 := t ++ k.drop f.length
theorem aeb (f t r : List UInt8) : mvK f t (f ++ r) = t ++ r := by simp [mvK]
theorem alS (k f t : List UInt8) (h : t.length + k.length < 1000000) : xz (k, f, t, ()) = some (bif bgn k f then (mvK f t k, true, ()) else ([], false, ())) := by
  unfold xz
  simp only [ace]
  cases hb : bgn k f
  · simp
  · have hle : f.length <= k.length := by
      obtain ⟨r, rfl⟩ := lU.1 hb
      simp
    have c1 : ((0 : Int) <= (f.length : Int)) := by omega
    have c2 : ((f.length : Int) <= (k.length : Int)) := by omega
    have c3 : t.length + (List.drop f.length k).length <= ai := by rw [aE, List.length_drop]; omega
    simp only [Bool.not_true, cond_false, cond_true, c1, c2, Int.le_refl, av, Bool.and_self, Int.toNat_natCast, List.take_length, c3]
    rfl
theorem alT (k f t : List UInt8) (h : t.length + k.length < 1000000) : rc (k, f, t, ()) = some (bif bgn k f then (mvK f t k, true, ()) else ([], false, ())) := by
  have hp : aX (k, f, ()) = some (bgn k f, ()) := by
    have := ace k f
    unfold iF at this
    unfold aX
    exact this
  unfold rc ji dO
  simp only [hp]
  cases hb : bgn k f
  · simp
  · have hle : f.length <= k.length := by
      obtain ⟨r, rfl⟩ := lU.1 hb
      simp
    have c1 : ((0 : Int) <= (f.length : Int)) := by omega
    have c2 : ((f.length : Int) <= (k.length : Int)) := by omega
    have c3 : t.length + (List.drop f.length k).length <= ai := by rw [aE, List.length_drop]; omega
    simp only [Bool.not_true, cond_false, cond_true, c1, c2, Int.le_refl, av, Bool.and_self, Int.toNat_natCast, List.take_length, c3]
    rfl
def aau (acc : List aa) (p : aa) : List aa := lW pk p (woK pk p.1 acc)
def hJ (base l : List aa) : List aa := l.foldl aau base
def mvP (f t : List UInt8) (p : aa) : aa := (mvK f t p.1, p.2.1, p.2.2.1, ())
theorem aiB (base l : List aa) (p : aa) : hJ base (l ++ [p]) = aau (hJ base l) p := by simp [hJ]
theorem ani (acc : List aa) (p : aa) : (aau acc p).length <= acc.length + 1 := by
  unfold aau
  have := aoQ (key := pk) (k := p.1) acc
  rw [abf]; omega
theorem zZ : ∀ (l base : List aa), (hJ base l).length <= base.length + l.length
  | [], base => by simp [hJ]
  | p :: l, base => by
    have h1 := zZ l (aau base p)
    have h2 := ani base p
    show (hJ (aau base p) l).length <= _
    simp; omega
theorem qg : ∀ (l base : List aa), Srt pk base -> Srt pk (hJ base l)
  | [], base, h => h
  | p :: l, base, h => qg l (aau base p) (Srt.ins h.wo (anT _ _))
def isMv (m : ae) : Prop := m.1 = 4 \/ m.1 = 5
def jo (m : ae) (t : List aa) : List aa :=
  bif decide (m.1 = 4) then (t.filter fun x => !bgn x.1 m.2.2.2.2.2.1).filter fun x => !bgn x.1 m.2.2.2.2.1 else t.filter fun x => !bgn x.1 m.2.2.2.2.2.1
def ib (m : ae) (t : List aa) : List aa := t.filter fun x => bgn x.1 m.2.2.2.2.1
theorem aom (t : List aa) (p : List UInt8) (hp : aaO p) (hl : t.length < 1000000) : gI (t, [preS p], ()) = some (t.filter (fun x => !bgn x.1 p), ()) := by
  rw [yh t _ hl (by simp)]
  congr 2
  apply List.filter_congr
  intro x hx
  simp only [List.any_cons, List.any_nil, Bool.or_false, aed hp.sh]
theorem aoZ (t : List aa) (p : List UInt8) (hp : aaO p) (hl : t.length < 1000000) : pw (t, [preS p], ()) = some (t.filter (fun x => bgn x.1 p), ()) := by
  rw [akN t _ hl (by simp)]
  congr 2
  apply List.filter_congr
  intro x hx
  simp only [List.any_cons, List.any_nil, Bool.or_false, aed hp.sh]
theorem aaQ (m : ae) (base src : List aa) (hb : Srt pk base) (hbl : base.length < 100000) (hsl : src.length < 100000) (hsrc : ∀ p ∈ src, bgn p.1 m.2.2.2.2.1 = true /\ m.2.2.2.2.2.1.length + p.1.length < 1000000) :
    qT ((0 : Int), m, base, src, ()) = some (.inl (hJ base (src.map (mvP m.2.2.2.2.1 m.2.2.2.2.2.1)), ())) := by
  obtain ⟨r, h1, h2⟩ := aU (b := mh) (fun i (o : List aa) => ((i : Int), m, o, src, ())) src.length (fun i o => o = hJ base ((src.take i).map (mvP m.2.2.2.2.1 m.2.2.2.2.2.1)))
    (fun r => r = .inl (hJ base (src.map (mvP m.2.2.2.2.1 m.2.2.2.2.2.1)), ())) (by omega)
    (fun i hi o ho => by
      left
      have c1 : ((i : Int) < (src.length : Int)) := by omega
      have c2 : ((0 : Int) <= (i : Int)) := by omega
      have hg : List.getD src i (([] : List UInt8), (([] : List UInt8), ((0 : Int), ()))) = src[i] := aK hi
      have w := wr1 i (by omega)
      obtain ⟨e1, e2⟩ := hsrc _ (List.getElem_mem hi)
      have hlen := zZ ((src.take i).map (mvP m.2.2.2.2.1 m.2.2.2.2.2.1)) base
      rw [List.length_map, List.length_take] at hlen
      have hso : Srt pk o := by rw [ho]; exact qg _ _ hb
      have hol : o.length < 1000000 := by rw [ho]; omega
      have hm := alS (src[i]).1 m.2.2.2.2.1 m.2.2.2.2.2.1 e2
      rw [e1, cond_true] at hm
      have hi2 := aeM o (mvP m.2.2.2.2.1 m.2.2.2.2.2.1 src[i]) hso hol
      have hi2 : mi (o, (mvK m.2.2.2.2.1 m.2.2.2.2.2.1 (src[i]).1, (src[i]).2.1, (src[i]).2.2.1, ()), ()) = some (aau o (mvP m.2.2.2.2.1 m.2.2.2.2.2.1 src[i]), ()) := hi2
      refine ⟨_, rfl, ?_⟩
      rw [bq hi, List.map_append, List.map_singleton, aiB, <- ho]
      unfold mh
      simp only [c1, c2, av, cond_true, Bool.and_self, Int.toNat_natCast, hg, w, hm, hi2])
    (fun o ho => by
      have c1 : ¬ ((src.length : Int) < (src.length : Int)) := by omega
      rw [List.take_length] at ho
      subst ho
      refine ⟨_, rfl, ?_⟩
      unfold mh
      simp only [c1, aF, cond_false, not_false_eq_true]) base (by simp [hJ])
  subst h2
  exact h1
theorem ajT (t : List aa) (m : ae) (hm : isMv m) (hf : aaO m.2.2.2.2.1) (ht : aaO m.2.2.2.2.2.1) (hs : Srt pk t) (hl : t.length < 100000) (hk : ∀ p ∈ t, m.2.2.2.2.2.1.length + p.1.length < 1000000) :
    jv (t, m, ()) = some (hJ (jo m t) ((ib m t).map (mvP m.2.2.2.2.1 m.2.2.2.2.2.1)), ()) := by
  have n1 : decide (m.1 = 1) = false := aF (by rcases hm with h | h <;> rw [h] <;> decide)
  have n2 : decide (m.1 = 2) = false := aF (by rcases hm with h | h <;> rw [h] <;> decide)
  have n3 : decide (m.1 = 3) = false := aF (by rcases hm with h | h <;> rw [h] <;> decide)
  have n6 : decide (m.1 = 6) = false := aF (by rcases hm with h | h <;> rw [h] <;> decide)
  have l1 := List.length_filter_le (fun x : aa => !bgn x.1 m.2.2.2.2.2.1) t
  have l2 := List.length_filter_le (fun x : aa => bgn x.1 m.2.2.2.2.1) t
  have l3 := List.length_filter_le (fun x : aa => !bgn x.1 m.2.2.2.2.1) (t.filter fun x => !bgn x.1 m.2.2.2.2.2.1)
  have hsrc : ∀ p ∈ ib m t, bgn p.1 m.2.2.2.2.1 = true /\ m.2.2.2.2.2.1.length + p.1.length < 1000000 := fun p hp => ⟨(List.mem_filter.1 hp).2, hk p (List.mem_filter.1 hp).1⟩
  have hsl : (ib m t).length < 100000 := by unfold ib; omega
  unfold jv
  simp only [n1, n2, n3, n6, cond_false, hf.pre2, ht.pre2, aom t _ ht (by omega), aoZ t _ hf (by omega)]
  cases h4 : decide (m.1 = 4)
  · have hbase : jo m t = t.filter fun x => !bgn x.1 m.2.2.2.2.2.1 := by unfold jo; rw [h4]; rfl
    have := aaQ m (jo m t) (ib m t) (by rw [hbase]; exact List.Pairwise.filter _ hs) (by rw [hbase]; omega) hsl hsrc
    rw [hbase] at this ⊢
    unfold ib at this ⊢
    simp only [cond_false, this]
  · have hbase : jo m t = (t.filter fun x => !bgn x.1 m.2.2.2.2.2.1).filter fun x => !bgn x.1 m.2.2.2.2.1 := by unfold jo; rw [h4]; rfl
    have := aaQ m (jo m t) (ib m t) (by rw [hbase]; exact List.Pairwise.filter _ (List.Pairwise.filter _ hs)) (by rw [hbase]; omega) hsl hsrc
    rw [hbase] at this ⊢
    unfold ib at this ⊢
    simp only [cond_true, aom _ _ hf (show (t.filter fun x => !bgn x.1 m.2.2.2.2.2.1).length < 1000000 by omega), this]
theorem alL {k : List UInt8} {p : aa} {l : List aa} (h1 : p.1 ≠ k) (h2 : kd (key := pk) k l = false) : kd (key := pk) k (lW pk p l) = false := by
  unfold kd at h2 ⊢
  rw [List.any_eq_false] at h2 ⊢
  intro b hb
  rcases abn.1 hb with rfl | hb
  · simpa using h1
  · exact h2 b hb
structure MvOK (m : ae) : Prop where
  kind : isMv m
  from_ : m.2.2.2.2.1 ∈ paths5
  to_ : m.2.2.2.2.2.1 ∈ paths5
  ap1 : bgn m.2.2.2.2.1 m.2.2.2.2.2.1 = false
  ap2 : bgn m.2.2.2.2.2.1 m.2.2.2.2.1 = false
theorem MvOK.not_both {m : ae} (h : MvOK m) {k : List UInt8} (h1 : bgn k m.2.2.2.2.1 = true) : bgn k m.2.2.2.2.2.1 = false := by
  cases h2 : bgn k m.2.2.2.2.2.1
  · rfl
  · rcases anI h1 h2 with h3 | h3
    · rw [h.ap1] at h3; cases h3
    · rw [h.ap2] at h3; cases h3
theorem MvOK.not_both2 {m : ae} (h : MvOK m) {k : List UInt8} (h1 : bgn k m.2.2.2.2.2.1 = true) : bgn k m.2.2.2.2.1 = false := by
  cases h2 : bgn k m.2.2.2.2.1
  · rfl
  · rw [h.not_both h2] at h1; cases h1
def aft (m : ae) (t : List aa) : List aa := hJ (jo m t) ((ib m t).map (mvP m.2.2.2.2.1 m.2.2.2.2.2.1))
theorem akx {m : ae} {t : List aa} {x : aa} (h : x ∈ jo m t) : x ∈ t /\ bgn x.1 m.2.2.2.2.2.1 = false := by
  unfold jo at h
  cases hk : decide (m.1 = 4)
  · rw [hk] at h
    have := List.mem_filter.1 h
    exact ⟨this.1, by simpa using this.2⟩
  · rw [hk] at h
    have := List.mem_filter.1 (List.mem_filter.1 h).1
    exact ⟨this.1, by simpa using this.2⟩
theorem aky {m : ae} {t : List aa} (h : Srt pk t) : Srt pk (jo m t) := by
  unfold jo
  cases decide (m.1 = 4)
  · exact List.Pairwise.filter _ h
  · exact List.Pairwise.filter _ (List.Pairwise.filter _ h)
theorem alm {f t k : List UInt8} : bgn (mvK f t k) t = true := lU.2 ⟨_, rfl⟩
theorem amj {m : ae} {t : List aa} : ∀ p ∈ (ib m t).map (mvP m.2.2.2.2.1 m.2.2.2.2.2.1), kd (key := pk) p.1 (jo m t) = false := by
  intro p hp
  obtain ⟨q, hq, rfl⟩ := List.mem_map.1 hp
  unfold kd
  rw [List.any_eq_false]
  intro b hb
  have h1 := (akx hb).2
  intro e
  have e : b.1 = mvK m.2.2.2.2.1 m.2.2.2.2.2.1 q.1 := of_decide_eq_true e
  rw [e, alm] at h1
  cases h1
theorem afK {m : ae} {t : List aa} (hs : Srt pk t) : ((ib m t).map (mvP m.2.2.2.2.1 m.2.2.2.2.2.1)).Pairwise (fun a b => a.1 ≠ b.1) := by
  rw [List.pairwise_map]
  have h : Srt pk (ib m t) := List.Pairwise.filter _ hs
  refine List.Pairwise.imp_of_mem (fun {a b} ha hb hab => ?_) h
  obtain ⟨r, hr⟩ := lU.1 (List.mem_filter.1 ha).2
  obtain ⟨s, hs⟩ := lU.1 (List.mem_filter.1 hb).2
  show mvK _ _ a.1 ≠ mvK _ _ b.1
  rw [hr, hs, aeb, aeb]
  intro e
  have e := List.append_cancel_left e
  have hab : Op.bytesLess a.1 b.1 = true := hab
  rw [hr, hs, e, cl] at hab
  cases hab
theorem anG {m : ae} {t : List aa} (hs : Srt pk t) : Srt pk (aft m t) := qg _ _ (aky hs)
theorem ack (t : List aa) (h : t.length < 1000000) : bA (t, ()) = some (t, ()) := by
  unfold bA
  have : (List.length ([] : List aa) + t.length) * 40 <= ai := by rw [aE]; simp; omega
  simp only [this, av, cond_true]
theorem aof (t : List aa) (p : aa) (hs : Srt pk t) (hl : t.length < 1000000) : y7 (t, p, ()) = some (aau t p, ()) := by
  have hle := uB (key := pk) p.1 t
  unfold y7 aau
  simp only [aff t p.1 hs (by omega), ack t hl]
  cases hh : kd (key := pk) p.1 t
  · have hins : cj ((lbK pk p.1 t : Int), t, [p], ()) = some ([p], lW pk p t, ()) := by
      unfold cj amM
      have c1 : ((0 : Int) <= (lbK pk p.1 t : Int)) := by omega
      have c2 : ((lbK pk p.1 t : Int) <= (t.length : Int)) := by omega
      have c3 : ([p] : List aa).length = 1 := rfl
      have c4 : t.length + 1 < 1000000000000000000 := by omega
      have hroom : (t.length + 1) * 40 <= ai := by rw [aE]; omega
      simp only [c1, c2, c3, c4, hroom, av, Bool.and_self, cond_true, Int.toNat_natCast]
      rw [amP t hs hh]
    simp only [cond_false, hins]
    rw [abS _ _ hh]
  · have hlt : lbK pk p.1 t < t.length := by
      rcases Nat.lt_or_ge (lbK pk p.1 t) t.length with h | h
      · exact h
      · rw [aeI p.1 t (by omega)] at hh; cases hh
    have c1 : ((0 : Int) <= (lbK pk p.1 t : Int)) := by omega
    have c2 : ((lbK pk p.1 t : Int) < (t.length : Int)) := by omega
    simp only [cond_true, c1, c2, av, Bool.and_self, Int.toNat_natCast]
    rw [ans t hs hh]
theorem anS (n : Nat) (h : n < 1000000) : cJ ((n : Int), ()) = some (([] : List aa), ()) := by
  unfold cJ
  have w0 : IntKind.i64.wrap ((0 : Int) - 0) = 0 := by decide
  have w1 : IntKind.i64.wrap ((n : Int) - 0) = (n : Int) := by rw [dK (by omega)]; omega
  have c1 : ¬ ((n : Int) < 0) := by omega
  simp only [w0, w1, aF c1, cond_false]
  by_cases hn : n = 0
  · subst hn
    have : ¬ (((0 : Nat) : Int) > 0) := by decide
    simp only [aF this, cond_false]
  · have c2 : ((n : Int) > 0) := by omega
    have c3 : ((0 : Int) < (n : Int)) := by omega
    have c4 : ((n : Int) * 40 <= (ai : Int)) := by rw [aE]; omega
    have c5 : ((0 : Int) <= ((List.replicate (Int.toNat (n : Int)) (([] : List UInt8), (([] : List UInt8), ((0 : Int), ())))).length : Int)) := by omega
    simp only [c2, c3, c4, c5, av, Bool.and_self, cond_true, List.take_zero]
theorem agZ (a b : List aa) (h : a.length + b.length < 1000000) : ci ([a, b], ()) = some (a ++ b, ()) := by
  have w1 : IntKind.i64.wrap ((0 : Int) + (a.length : Int)) = (a.length : Int) := by rw [dK (by omega)]; omega
  have w2 : IntKind.i64.wrap ((a.length : Int) + (b.length : Int)) = ((a.length + b.length : Nat) : Int) := by rw [dK (by omega)]; omega
  have w3 : IntKind.i64.wrap ((0 : Int) + 1) = 1 := by decide
  have w4 : IntKind.i64.wrap ((1 : Int) + 1) = 2 := by decide
  have n1 : ¬ ((a.length : Int) < 0) := by omega
  have n2 : ¬ (((a.length + b.length : Nat) : Int) < 0) := by omega
  have l2 : (([a, b] : List (List aa)).length : Int) = 2 := rfl
  have g0 : List.getD [a, b] (Int.toNat 0) ([] : List aa) = a := rfl
  have g1 : List.getD [a, b] (Int.toNat 1) ([] : List aa) = b := rfl
  have d02 : decide ((0 : Int) < 2) = true := by decide
  have d12 : decide ((1 : Int) < 2) = true := by decide
  have d22 : decide ((2 : Int) < 2) = false := by decide
  have d00 : decide ((0 : Int) <= 0) = true := by decide
  have d01 : decide ((0 : Int) <= 1) = true := by decide
  have s0 : aI ([a, b], (0 : Int), [a, b], (2 : Int), (0 : Int), ()) = some (.inl ([a, b], (a.length : Int), [a, b], (2 : Int), (1 : Int), ())) := by
    unfold aI
    simp only [l2, g0, d02, d00, cond_true, cond_false, Bool.and_self, w1, w3, aF n1]
  have s1 : aI ([a, b], (a.length : Int), [a, b], (2 : Int), (1 : Int), ()) = some (.inl ([a, b], ((a.length + b.length : Nat) : Int), [a, b], (2 : Int), (2 : Int), ())) := by
    unfold aI
    simp only [l2, g1, d12, d01, cond_true, cond_false, Bool.and_self, w2, w4, aF n2]
  have s2 : aI ([a, b], ((a.length + b.length : Nat) : Int), [a, b], (2 : Int), (2 : Int), ()) = some (.inr (.inl ([a, b], ((a.length + b.length : Nat) : Int), ()))) := by
    unfold aI
    simp only [d22, cond_false]
  have h1 : aR aI ([a, b], (0 : Int), [a, b], (2 : Int), (0 : Int), ()) = some (.inl ([a, b], ((a.length + b.length : Nat) : Int), ())) := ia (n := 3) (by rw [gv]; omega) (by simp only [eC, s0, s1, s2])
  have r1 : (([] : List aa).length + a.length) * 40 <= ai := by rw [aE]; simp; omega
  have r2 : (([] ++ a : List aa).length + b.length) * 40 <= ai := by rw [aE]; simp; omega
  have u0 : aJ ([a, b], (2 : Int), (0 : Int), ([] : List aa), ()) = some (.inl ([a, b], (2 : Int), (1 : Int), [] ++ a, ())) := by
    unfold aJ
    simp only [l2, g0, d02, d00, cond_true, Bool.and_self, w3, r1, av]
  have u1 : aJ ([a, b], (2 : Int), (1 : Int), [] ++ a, ()) = some (.inl ([a, b], (2 : Int), (2 : Int), [] ++ a ++ b, ())) := by
    unfold aJ
    simp only [l2, g1, d12, d01, cond_true, Bool.and_self, w4, r2, av]
  have u2 : aJ ([a, b], (2 : Int), (2 : Int), [] ++ a ++ b, ()) = some (.inr (.inl ([] ++ a ++ b, ()))) := by
    unfold aJ
    simp only [d22, cond_false]
  have h2 : aR aJ ([a, b], (2 : Int), (0 : Int), ([] : List aa), ()) = some (.inl ([] ++ a ++ b, ())) := ia (n := 3) (by rw [gv]; omega) (by simp only [eC, u0, u1, u2])
  unfold ci cX cY
  simp only [l2, h1, anS _ h, h2, List.nil_append]
section
variable {α : Type} {key : α -> List UInt8}
theorem aoI {lo hi : List UInt8} (h : Op.bytesLess lo hi = true) (l : List α) (hs : Srt key l) : l.take (lbK key lo l) ++ l.drop (lbK key hi l) = l.filter fun a => !(!Op.bytesLess (key a) lo && Op.bytesLess (key a) hi) := by
  have e : l = l.take (lbK key hi l) ++ l.drop (lbK key hi l) := (List.take_append_drop _ _).symm
  have hle := ajg h l hs
  conv => rhs; rw [e]
  rw [List.filter_append]
  have e1 : (l.drop (lbK key hi l)).filter (fun a => !(!Op.bytesLess (key a) lo && Op.bytesLess (key a) hi)) = l.drop (lbK key hi l) := by
    rw [List.filter_eq_self]
    intro a ha
    rw [adW hi l hs] at ha
    have := (List.mem_filter.1 ha).2
    have : Op.bytesLess (key a) hi = false := by simpa using this
    rw [this]; simp
  have e2 : (l.take (lbK key hi l)).filter (fun a => !(!Op.bytesLess (key a) lo && Op.bytesLess (key a) hi)) = l.take (lbK key lo l) := by
    rw [abO hi l hs, List.filter_filter, abO lo l hs]
    apply List.filter_congr
    intro a _
    cases h1 : Op.bytesLess (key a) lo
    · cases Op.bytesLess (key a) hi <;> rfl
    · rw [bR h1 h]; rfl
  rw [e1, e2]
end
theorem ae7 (t : List aa) (s : ac) (h : spanOK s) (hs : Srt pk t) (hl : t.length < 1000000) : j9 (t, s, ()) = some (t.filter (fun p => !er s p.1), ()) := by
  have h1 := uB (key := pk) s.1 t
  have h2 := uB (key := pk) s.2.1 t
  unfold j9 mM
  simp only [aiN s h, cond_false, aff t _ hs (show t.length < 1000000000 by omega)]
  have c1 : ((0 : Int) <= (lbK pk s.1 t : Int)) := by omega
  have c2 : ((lbK pk s.1 t : Int) <= (t.length : Int)) := by omega
  by_cases hn : s.2.1 = []
  · have c : decide ((s.2.1 : List UInt8) = []) = true := av hn
    have c3 : ((0 : Int) <= (t.length : Int)) := by omega
    have hd : List.drop t.length t = [] := List.drop_length
    simp only [c, Bool.not_true, cond_false, c1, c2, c3, av, Bool.and_self, cond_true, Int.le_refl, Int.toNat_natCast, List.take_length, List.drop_zero, hd]
    rw [agZ _ _ (by simp; omega)]
    simp only [List.append_nil]
    rw [abO s.1 t hs]
    congr 2
    apply List.filter_congr
    intro p _
    unfold er
    simp [hn, pk]
  · have hlt := h.resolve_left hn
    have c : decide ((s.2.1 : List UInt8) = []) = false := aF hn
    have c3 : ((0 : Int) <= (lbK pk s.2.1 t : Int)) := by omega
    have c4 : ((lbK pk s.2.1 t : Int) <= (t.length : Int)) := by omega
    simp only [c, Bool.not_false, cond_true, c1, c2, c3, c4, av, Bool.and_self, Int.le_refl, Int.toNat_natCast, List.take_length, List.drop_zero]
    rw [agZ _ _ (by have := ajg (key := pk) hlt t hs; rw [List.length_take, List.length_drop]; omega), aoI hlt t hs]
    dsimp only
    congr 2
    apply List.filter_congr
    intro p _
    unfold er
    simp [hn, pk]
theorem ait : ∀ {a b : List aa}, Srt pk a -> Srt pk b -> (∀ x, x ∈ a ↔ x ∈ b) -> a = b
  | [], [], _, _, _ => rfl
  | [], y :: b, _, _, h => by have := (h y).2 List.mem_cons_self; cases this
  | x :: a, [], _, _, h => by have := (h x).1 List.mem_cons_self; cases this
  | x :: a, y :: b, ha, hb, h => by
    have hxy : x = y := by
      rcases List.mem_cons.1 ((h x).1 List.mem_cons_self) with e | e
      · exact e
      · rcases List.mem_cons.1 ((h y).2 List.mem_cons_self) with e2 | e2
        · exact e2.symm
        · have h1 := hb.head x e
          have h2 := ha.head y e2
          have := bR h1 h2
          rw [cl] at this; cases this
    subst hxy
    congr 1
    refine ait ha.tail hb.tail (fun z => ?_)
    have hz := h z
    constructor
    · intro hza
      rcases List.mem_cons.1 (hz.1 (List.mem_cons_of_mem _ hza)) with e | e
      · subst e
        have := ha.head z hza
        rw [cl] at this; cases this
      · exact e
    · intro hzb
      rcases List.mem_cons.1 (hz.2 (List.mem_cons_of_mem _ hzb)) with e | e
      · subst e
        have := hb.head z hzb
        rw [cl] at this; cases this
      · exact e
theorem lY : ∀ {l base : List aa}, (∀ p ∈ l, kd (key := pk) p.1 base = false) -> l.Pairwise (fun a b => a.1 ≠ b.1) -> ∀ x, x ∈ hJ base l ↔ x ∈ base \/ x ∈ l
  | [], base, _, _, x => by simp [hJ]
  | p :: l, base, h1, h2, x => by
    have hw : woK pk p.1 base = base := abS _ _ (h1 p List.mem_cons_self)
    have hp : aau base p = lW pk p base := by unfold aau; rw [hw]
    have h3 := List.pairwise_cons.1 h2
    have ih := lY (l := l) (base := aau base p) (fun q hq => by
      rw [hp]
      exact alL (h3.1 q hq) (h1 q (List.mem_cons_of_mem _ hq))) h3.2 x
    show x ∈ hJ (aau base p) l ↔ _
    rw [ih, hp, abn, List.mem_cons]
    constructor
    · rintro ((h | h) | h)
      · exact .inr (.inl h)
      · exact .inl h
      · exact .inr (.inr h)
    · rintro (h | h | h)
      · exact .inl (.inr h)
      · exact .inl (.inl h)
      · exact .inr h
theorem acu {α : Type} {P Q : List α} {x d : α} {i : Nat} (h : P.length = i) : List.getD (P ++ x :: Q) i d = x := by
  subst h
  simp [List.getD]
theorem aj9 {out a b : List aa} {x y : aa} (h1 : Srt pk (out ++ x :: a)) (h2 : Srt pk (out ++ y :: b)) (hlt : Op.bytesLess x.1 y.1 = true) : Srt pk (out ++ [x] ++ y :: b) := by
  unfold Srt at h1 h2 ⊢
  rw [List.pairwise_append] at h1 h2
  rw [List.append_assoc, List.pairwise_append]
  refine ⟨h1.1, ?_, ?_⟩
  · show List.Pairwise _ (x :: y :: b)
    refine List.pairwise_cons.2 ⟨fun z hz => ?_, h2.2.1⟩
    rcases List.mem_cons.1 hz with rfl | hz
    · exact hlt
    · exact bR hlt ((List.pairwise_cons.1 h2.2.1).1 z hz)
  · intro u hu z hz
    rcases List.mem_cons.1 hz with rfl | hz
    · exact h1.2.2 u hu _ List.mem_cons_self
    · exact h2.2.2 u hu z hz
theorem an9 (a b : List aa) (ha : Srt pk a) (hb : Srt pk b) (hd : ∀ p ∈ a, ∀ q ∈ b, p.1 ≠ q.1) (hl : a.length + b.length < 1000000) :
    ∃ r, se (a, b, ()) = some (r, ()) /\ Srt pk r /\ ∀ x, x ∈ r ↔ x ∈ a \/ x ∈ b := by
  obtain ⟨r, h1, h2⟩ := ahk (b := ir) (fun s => s.1.length + s.2.1.length)
    (fun s => ∃ a' b' out : List aa, s = (a', b', out, ()) /\ Srt pk (out ++ a') /\ Srt pk (out ++ b') /\ (∀ p ∈ a', ∀ q ∈ b', p.1 ≠ q.1) /\ (∀ x, (x ∈ out \/ x ∈ a' \/ x ∈ b') ↔ x ∈ a \/ x ∈ b) /\ out.length + a'.length + b'.length = a.length + b.length)
    (fun r => ∃ a' b' out : List aa, r = .inl (a', b', out, ()) /\ Srt pk (out ++ a' ++ b') /\ (∀ x, (x ∈ out \/ x ∈ a' \/ x ∈ b') ↔ x ∈ a \/ x ∈ b) /\ out.length + a'.length + b'.length = a.length + b.length)
    (fun s hs => by
      obtain ⟨a', b', out, rfl, s1, s2, hd', hm, hlen⟩ := hs
      cases a' with
      | nil =>
        right
        refine ⟨.inl ([], b', out, ()), ?_, [], b', out, rfl, by simpa using s2, hm, hlen⟩
        unfold ir gG
        have : decide ((([] : List aa).length : Int) = 0) = true := by decide
        simp only [this, Bool.not_true, cond_false, cond_true]
      | cons x a' =>
        cases b' with
        | nil =>
          right
          refine ⟨.inl (x :: a', [], out, ()), ?_, x :: a', [], out, rfl, by simpa using s1, hm, hlen⟩
          unfold ir gG
          have d1 : decide (((x :: a').length : Int) = 0) = false := aF (by simp; omega)
          have d2 : decide ((([] : List aa).length : Int) = 0) = true := by decide
          simp only [d1, d2, Bool.not_false, cond_true]
        | cons y b' =>
          left
          have d1 : decide (((x :: a').length : Int) = 0) = false := aF (by simp; omega)
          have d2 : decide (((y :: b').length : Int) = 0) = false := aF (by simp; omega)
          have d3 : ((0 : Int) < ((x :: a').length : Int)) := by simp
          have d4 : ((0 : Int) < ((y :: b').length : Int)) := by simp
          have d5 : ((1 : Int) <= ((x :: a').length : Int)) := by simp; omega
          have d6 : ((1 : Int) <= ((y :: b').length : Int)) := by simp; omega
          have g1 : List.getD (x :: a') 0 (([] : List UInt8), (([] : List UInt8), ((0 : Int), ()))) = x := rfl
          have g2 : List.getD (y :: b') 0 (([] : List UInt8), (([] : List UInt8), ((0 : Int), ()))) = y := rfl
          have e1 : List.drop (Int.toNat 1) (x :: a') = a' := rfl
          have e2 : List.drop (Int.toNat 1) (y :: b') = b' := rfl
          have hlen' : out.length < 1000000 := by simp at hlen; omega
          have room : ∀ q : aa, (out.length + ([q] : List aa).length) * 40 <= ai := fun q => by rw [aE]; simp; omega
          have hne : x.1 ≠ y.1 := hd' x List.mem_cons_self y List.mem_cons_self
          unfold ir gG
          simp only [d1, d2, Bool.not_false, cond_true, cond_false, d3, d4, d5, av, g1, g2, room, Int.le_refl, Bool.and_self, Int.toNat_natCast, List.take_length, e1]
          cases hlt : Op.bytesLess x.1 y.1
          · have hlt2 : Op.bytesLess y.1 x.1 = true := by
              rcases dC x.1 y.1 with h | h | h
              · rw [h] at hlt; cases hlt
              · exact absurd h hne
              · exact h
            unfold mL
            simp only [aF hne, cond_false, d4, d6, av, cond_true, g2, room, Int.le_refl, Bool.and_self, Int.toNat_natCast, List.take_length, e2]
            refine ⟨_, rfl, ⟨x :: a', b', out ++ [y], rfl, aj9 s2 s1 hlt2, by simpa using s2, fun p hp q hq => hd' p hp q (List.mem_cons_of_mem _ hq), fun z => ?_, by simp at hlen ⊢; omega⟩, by simp⟩
            rw [<- hm z]
            simp only [List.mem_append, List.mem_cons, List.mem_nil_iff, or_false]
            constructor
            · rintro ((h | h) | (h | h) | h) <;> simp [h]
            · rintro (h | (h | h) | (h | h)) <;> simp [h]
          · simp only [cond_true]
            refine ⟨_, rfl, ⟨a', y :: b', out ++ [x], rfl, by simpa using s1, aj9 s1 s2 hlt, fun p hp q hq => hd' p (List.mem_cons_of_mem _ hp) q hq, fun z => ?_, by simp at hlen ⊢; omega⟩, by simp⟩
            rw [<- hm z]
            simp only [List.mem_append, List.mem_cons, List.mem_nil_iff, or_false]
            constructor
            · rintro ((h | h) | h | (h | h)) <;> simp [h]
            · rintro (h | (h | h) | (h | h)) <;> simp [h])
    (a, b, [], ()) ⟨a, b, [], rfl, by simpa using ha, by simpa using hb, hd, by intro x; simp, by simp⟩ (by simp; omega)
  obtain ⟨a', b', out, rfl, hs, hm, hlen⟩ := h2
  have w : IntKind.i64.wrap ((a.length : Int) + (b.length : Int)) = ((a.length + b.length : Nat) : Int) := by rw [dK (by omega)]; omega
  have c1 : ((0 : Int) <= ((a.length + b.length : Nat) : Int)) := by omega
  have c2 : (((a.length + b.length : Nat) : Int) * 40 <= (ai : Int)) := by rw [aE]; omega
  have c3 : (out.length + a'.length) * 40 <= ai := by rw [aE]; omega
  have c4 : ((out ++ a').length + b'.length) * 40 <= ai := by rw [aE, List.length_append]; omega
  refine ⟨out ++ a' ++ b', ?_, hs, fun x => ?_⟩
  · unfold se rg
    simp only [w, c1, c2, Int.le_refl, Nat.le_refl, decide_true, av, Bool.and_self, cond_true, List.replicate_zero, h1, c3, c4]
  · rw [<- hm x]
    simp only [List.mem_append]
    constructor
    · rintro ((h | h) | h) <;> simp [h]
    · rintro (h | h | h) <;> simp [h]
theorem ajq (t : List aa) (f u : List UInt8) (hf : aaO f) (hs : Srt pk t) (hl : t.length < 1000000) (hk : ∀ p ∈ t, u.length + p.1.length < 1000000) :
    yq (t, f, u, ()) = some ((t.filter fun x => bgn x.1 f).map (mvP f u), ()) := by
  have e : (t.filter fun x => er (preS f) x.1) = t.filter fun x => bgn x.1 f := by
    apply List.filter_congr
    intro x _
    exact aed hf.sh _
  have l2 := List.length_filter_le (fun x : aa => bgn x.1 f) t
  have hrange := amb t (preS f) (ak8 hf.sh) hs (by omega)
  rw [e] at hrange
  have hsrc : ∀ p ∈ t.filter (fun x => bgn x.1 f), bgn p.1 f = true /\ u.length + p.1.length < 1000000 := fun p hp => ⟨(List.mem_filter.1 hp).2, hk p (List.mem_filter.1 hp).1⟩
  generalize t.filter (fun x => bgn x.1 f) = src at *
  obtain ⟨r, h1, h2⟩ := aU (b := jM) (fun i (o : List aa) => (f, u, (src.length : Int), (i : Int), o, ())) src.length (fun i o => o = (src.take i).map (mvP f u) ++ src.drop i)
    (fun r => r = .inl (src.map (mvP f u), ())) (by omega)
    (fun i hi o ho => by
      left
      have hd : src.drop i = src[i] :: src.drop (i + 1) := List.drop_eq_getElem_cons hi
      have hlen : ((src.take i).map (mvP f u)).length = i := by rw [List.length_map, List.length_take]; omega
      have hol : o.length = src.length := by rw [ho, List.length_append, hlen, List.length_drop]; omega
      have c1 : ((i : Int) < (src.length : Int)) := by omega
      have c2 : ((0 : Int) <= (i : Int)) := by omega
      have hg : List.getD o i (([] : List UInt8), (([] : List UInt8), ((0 : Int), ()))) = src[i] := by
        rw [ho, hd]
        exact acu hlen
      have w := wr1 i (by omega)
      obtain ⟨e1, e2⟩ := hsrc _ (List.getElem_mem hi)
      have hm := alT (src[i]).1 f u e2
      rw [e1, cond_true] at hm
      refine ⟨_, rfl, ?_⟩
      have hset : o.set i (mvP f u src[i]) = (src.take (i + 1)).map (mvP f u) ++ src.drop (i + 1) := by
        rw [ho, hd, bq hi, List.map_append, List.append_assoc]
        rw [List.set_append_right _ _ (by omega), hlen, Nat.sub_self]
        rfl
      rw [<- hset]
      unfold jM
      simp only [hol, c1, c2, av, cond_true, Bool.and_self, Int.toNat_natCast, hg, w, hm]
      rfl)
    (fun o ho => by
      have c1 : ¬ ((src.length : Int) < (src.length : Int)) := by omega
      rw [List.take_length, List.drop_length, List.append_nil] at ho
      subst ho
      refine ⟨_, rfl, ?_⟩
      unfold jM
      simp only [c1, aF, cond_false, not_false_eq_true]) src (by simp)
  subst h2
  have h1 : aR jM (f, u, (src.length : Int), (0 : Int), src, ()) = _ := h1
  unfold yq uF
  simp only [hf.pre, hrange, ack src (by omega), h1]
theorem anZ {m : ae} {t : List aa} (hs : Srt pk t) : Srt pk ((ib m t).map (mvP m.2.2.2.2.1 m.2.2.2.2.2.1)) := by
  unfold Srt
  rw [List.pairwise_map]
  have h : Srt pk (ib m t) := List.Pairwise.filter _ hs
  refine List.Pairwise.imp_of_mem (fun {a b} ha hb hab => ?_) h
  obtain ⟨r, hr⟩ := lU.1 (List.mem_filter.1 ha).2
  obtain ⟨s, hs⟩ := lU.1 (List.mem_filter.1 hb).2
  have hab : Op.bytesLess a.1 b.1 = true := hab
  show Op.bytesLess (mvK _ _ a.1) (mvK _ _ b.1) = true
  rw [hr, hs, aes] at hab
  rw [hr, hs, aeb, aeb, aes]
  exact hab
theorem ae6 (t : List aa) (p : List UInt8) (hp : aaO p) (hs : Srt pk t) (hl : t.length < 1000000) : j9 (t, preS p, ()) = some (t.filter (fun x => !bgn x.1 p), ()) := by
  rw [ae7 t _ (ak8 hp.sh) hs hl]
  congr 2
  apply List.filter_congr
  intro x _
  rw [aed hp.sh]
theorem agX (t : List aa) (m : ae) (hf : aaO m.2.2.2.2.1) (ht : aaO m.2.2.2.2.2.1) (hs : Srt pk t) (hl : t.length < 100000) (hk : ∀ p ∈ t, m.2.2.2.2.2.1.length + p.1.length < 1000000) :
    iK (m, t, ()) = some (hJ (t.filter fun x => !bgn x.1 m.2.2.2.2.2.1) ((ib m t).map (mvP m.2.2.2.2.1 m.2.2.2.2.2.1)), ()) := by
  have l1 := List.length_filter_le (fun x : aa => !bgn x.1 m.2.2.2.2.2.1) t
  have l2 : (ib m t).length <= t.length := List.length_filter_le _ _
  have hfr : ∀ p ∈ (ib m t).map (mvP m.2.2.2.2.1 m.2.2.2.2.2.1), kd (key := pk) p.1 (t.filter fun x => !bgn x.1 m.2.2.2.2.2.1) = false := by
    intro p hp
    obtain ⟨q, hq, rfl⟩ := List.mem_map.1 hp
    unfold kd
    rw [List.any_eq_false]
    intro b hb
    have h1 := (List.mem_filter.1 hb).2
    intro e
    have e : b.1 = mvK m.2.2.2.2.1 m.2.2.2.2.2.1 q.1 := of_decide_eq_true e
    rw [e, alm] at h1
    cases h1
  have hdis : ∀ p ∈ t.filter (fun x => !bgn x.1 m.2.2.2.2.2.1), ∀ q ∈ (ib m t).map (mvP m.2.2.2.2.1 m.2.2.2.2.2.1), p.1 ≠ q.1 := by
    intro p hp q hq e
    have := hfr q hq
    unfold kd at this
    rw [List.any_eq_false] at this
    exact this p hp (decide_eq_true e)
  obtain ⟨r, e1, e2, e3⟩ := an9 (t.filter fun x => !bgn x.1 m.2.2.2.2.2.1) ((ib m t).map (mvP m.2.2.2.2.1 m.2.2.2.2.2.1)) (List.Pairwise.filter _ hs) (anZ hs) hdis (by rw [List.length_map]; omega)
  have hr : r = hJ (t.filter fun x => !bgn x.1 m.2.2.2.2.2.1) ((ib m t).map (mvP m.2.2.2.2.1 m.2.2.2.2.2.1)) :=
    ait e2 (qg _ _ (List.Pairwise.filter _ hs)) (fun x => by rw [e3 x, lY hfr (afK hs)])
  have hm := ajq t m.2.2.2.2.1 m.2.2.2.2.2.1 hf hs (by omega) hk
  unfold ib at e1
  unfold iK
  simp only [ht.pre, ae6 t _ ht hs (by omega), hm, e1, hr]
theorem amX (t : List aa) (m : ae) (hm : MvOK m) (h4 : m.1 = 4) (hs : Srt pk t) (hl : t.length < 100000) (hk : ∀ p ∈ t, m.2.2.2.2.2.1.length + p.1.length < 1000000) :
    mb (m, t, ()) = some (aft m t, ()) := by
  have pf := y5 (fD _ hm.from_)
  have pt := y5 (fD _ hm.to_)
  have l1 := List.length_filter_le (fun x : aa => !bgn x.1 m.2.2.2.2.2.1) t
  have l2 : (ib m t).length <= t.length := List.length_filter_le _ _
  have hc := agX t m pf pt hs hl hk
  have hb : jo m t = (t.filter fun x => !bgn x.1 m.2.2.2.2.2.1).filter fun x => !bgn x.1 m.2.2.2.2.1 := by unfold jo; rw [av h4]; rfl
  have hfr : ∀ p ∈ (ib m t).map (mvP m.2.2.2.2.1 m.2.2.2.2.2.1), kd (key := pk) p.1 (t.filter fun x => !bgn x.1 m.2.2.2.2.2.1) = false := by
    intro p hp
    obtain ⟨q, hq, rfl⟩ := List.mem_map.1 hp
    unfold kd
    rw [List.any_eq_false]
    intro b hb
    have h1 := (List.mem_filter.1 hb).2
    intro e
    have e : b.1 = mvK m.2.2.2.2.1 m.2.2.2.2.2.1 q.1 := of_decide_eq_true e
    rw [e, alm] at h1
    cases h1
  have hs1 := qg ((ib m t).map (mvP m.2.2.2.2.1 m.2.2.2.2.2.1)) (t.filter fun x => !bgn x.1 m.2.2.2.2.2.1) (List.Pairwise.filter _ hs)
  have hlen := zZ ((ib m t).map (mvP m.2.2.2.2.1 m.2.2.2.2.2.1)) (t.filter fun x => !bgn x.1 m.2.2.2.2.2.1)
  rw [List.length_map] at hlen
  have hd := ae6 (hJ (t.filter fun x => !bgn x.1 m.2.2.2.2.2.1) ((ib m t).map (mvP m.2.2.2.2.1 m.2.2.2.2.2.1))) m.2.2.2.2.1 pf hs1 (by omega)
  have he : (hJ (t.filter fun x => !bgn x.1 m.2.2.2.2.2.1) ((ib m t).map (mvP m.2.2.2.2.1 m.2.2.2.2.2.1))).filter (fun x => !bgn x.1 m.2.2.2.2.1) = aft m t := by
    refine ait (List.Pairwise.filter _ hs1) (anG hs) (fun x => ?_)
    unfold aft
    rw [List.mem_filter, lY hfr (afK hs), lY amj (afK hs), hb]
    constructor
    · rintro ⟨h1 | h1, h2⟩
      · exact Or.inl (List.mem_filter.2 ⟨h1, h2⟩)
      · exact Or.inr h1
    · rintro (h | h1)
      · obtain ⟨h1, h2⟩ := List.mem_filter.1 h
        exact ⟨Or.inl h1, h2⟩
      · refine ⟨.inr h1, ?_⟩
        obtain ⟨q, hq, rfl⟩ := List.mem_map.1 h1
        have : bgn (mvK m.2.2.2.2.1 m.2.2.2.2.2.1 q.1) m.2.2.2.2.1 = false := hm.not_both2 alm
        show (!bgn (mvK m.2.2.2.2.1 m.2.2.2.2.2.1 q.1) m.2.2.2.2.1) = true
        rw [this]; rfl
  unfold mb
  simp only [hc, pf.pre, hd, he]
def iH (m : ae) (p : aa) : aa := bif er m.2.2.2.1 p.1 then (p.1, p.2.1, m.2.2.2.2.2.2.1, p.2.2.2) else p
theorem aml (t : List aa) (m : ae) (hl : t.length < 1000000) : x9 ((0 : Int), m, t, ()) = some (.inl (t.map (iH m), ())) := by
  obtain ⟨r, h1, h2⟩ := aU (b := mg) (fun i (o : List aa) => ((i : Int), m, o, ())) t.length (fun i o => o = (t.take i).map (iH m) ++ t.drop i)
    (fun r => r = .inl (t.map (iH m), ())) (by omega)
    (fun i hi o ho => by
      left
      have hd : t.drop i = t[i] :: t.drop (i + 1) := List.drop_eq_getElem_cons hi
      have hlen : ((t.take i).map (iH m)).length = i := by rw [List.length_map, List.length_take]; omega
      have hol : o.length = t.length := by rw [ho, List.length_append, hlen, List.length_drop]; omega
      have c1 : ((i : Int) < (t.length : Int)) := by omega
      have c2 : ((0 : Int) <= (i : Int)) := by omega
      have hg : List.getD o i (([] : List UInt8), (([] : List UInt8), ((0 : Int), ()))) = t[i] := by
        rw [ho, hd]
        exact acu hlen
      have w := wr1 i (by omega)
      have hset : ∀ q, o.set i q = (t.take i).map (iH m) ++ q :: t.drop (i + 1) := by
        intro q
        rw [ho, hd, List.set_append_right _ _ (by omega), hlen, Nat.sub_self]
        rfl
      have hst : (t.take (i + 1)).map (iH m) ++ t.drop (i + 1) = (t.take i).map (iH m) ++ iH m t[i] :: t.drop (i + 1) := by
        rw [bq hi, List.map_append, List.append_assoc]; rfl
      refine ⟨_, rfl, ?_⟩
      rw [hst]
      unfold mg iH
      simp only [hol, c1, c2, av, cond_true, Bool.and_self, Int.toNat_natCast, hg, w, ahM, hset]
      cases hh : er m.2.2.2.1 (t[i]).1
      · simp only [cond_false]
        rw [ho, hd]; rfl
      · simp only [cond_true]; rfl)
    (fun o ho => by
      have hol : o.length = t.length := by rw [ho, List.length_append, List.length_map, List.length_take, List.length_drop]; omega
      have c1 : ¬ ((t.length : Int) < (t.length : Int)) := by omega
      rw [List.take_length, List.drop_length, List.append_nil] at ho
      subst ho
      refine ⟨_, rfl, ?_⟩
      unfold mg
      simp only [hol, c1, aF, cond_false, not_false_eq_true]) t (by simp)
  subst h2
  exact h1
theorem amF (s : ac) (k : List UInt8) : tW (s, k, ()) = some (er s k, ()) := by
  have := ahM s k
  unfold tM at this
  unfold tW
  exact this
theorem amk (t : List aa) (m : ae) (hl : t.length < 1000000) : kQ ((t.length : Int), (0 : Int), m, t, ()) = some (.inl (t.map (iH m), ())) := by
  obtain ⟨r, h1, h2⟩ := aU (b := fR) (fun i (o : List aa) => ((t.length : Int), (i : Int), m, o, ())) t.length (fun i o => o = (t.take i).map (iH m) ++ t.drop i)
    (fun r => r = .inl (t.map (iH m), ())) (by omega)
    (fun i hi o ho => by
      left
      have hd : t.drop i = t[i] :: t.drop (i + 1) := List.drop_eq_getElem_cons hi
      have hlen : ((t.take i).map (iH m)).length = i := by rw [List.length_map, List.length_take]; omega
      have hol : o.length = t.length := by rw [ho, List.length_append, hlen, List.length_drop]; omega
      have c1 : ((i : Int) < (t.length : Int)) := by omega
      have c2 : ((0 : Int) <= (i : Int)) := by omega
      have hg : List.getD o i (([] : List UInt8), (([] : List UInt8), ((0 : Int), ()))) = t[i] := by
        rw [ho, hd]
        exact acu hlen
      have w := wr1 i (by omega)
      have hset : ∀ q, o.set i q = (t.take i).map (iH m) ++ q :: t.drop (i + 1) := by
        intro q
        rw [ho, hd, List.set_append_right _ _ (by omega), hlen, Nat.sub_self]
        rfl
      have hst : (t.take (i + 1)).map (iH m) ++ t.drop (i + 1) = (t.take i).map (iH m) ++ iH m t[i] :: t.drop (i + 1) := by
        rw [bq hi, List.map_append, List.append_assoc]; rfl
      refine ⟨_, rfl, ?_⟩
      rw [hst]
      unfold fR iH
      simp only [hol, c1, c2, av, cond_true, Bool.and_self, Int.toNat_natCast, hg, w, amF, hset]
      cases hh : er m.2.2.2.1 (t[i]).1
      · simp only [cond_false]
        rw [ho, hd]; rfl
      · simp only [cond_true]; rfl)
    (fun o ho => by
      have c1 : ¬ ((t.length : Int) < (t.length : Int)) := by omega
      rw [List.take_length, List.drop_length, List.append_nil] at ho
      refine ⟨_, rfl, ?_⟩
      unfold fR
      simp only [c1, aF, cond_false, not_false_eq_true, ho]) t (by simp)
  subst h2
  exact h1
def apM (t : List aa) (m : ae) : List aa :=
  if m.1 = 1 then aau t (m.2.1, m.2.2.1, m.2.2.2.2.2.2.1, ())
  else if m.1 = 2 then t.filter fun p => !er (m.2.1, m.2.1 ++ [0], ()) p.1
  else if m.1 = 3 then t.filter fun p => !er m.2.2.2.1 p.1
  else if m.1 = 6 then t.map (iH m)
  else aft m t
theorem aoa (k : List UInt8) (h : k.length < 1000000) : gh (k, ()) = some ((k, k ++ [0], ()), ()) /\ ol (k, ()) = some ((k, k ++ [0], ()), ()) := by
  unfold gh ol
  have : k.length + ([0] : List UInt8).length <= ai := by rw [aE]; simp; omega
  simp only [this, av, cond_true, and_self]
theorem akW (s : ac) : (fun p : aa => !([s] : List ac).any (fun s => er s p.1)) = fun p => !er s p.1 := by
  funext p
  simp
theorem amw (t : List aa) (m : ae) (hm : MsgOK m) (hs : Srt pk t) (hl : t.length < 100000) (hk : ∀ p ∈ t, p.1.length < 1000) :
    lw (t, m, ()) = some (apM t m, ()) /\ jv (t, m, ()) = some (apM t m, ()) := by
  have klen : m.1 = 1 \/ m.1 = 2 -> m.2.1.length < 1000000 := fun h => by
    have hlen : keys20.all (fun k => decide (k.length < 100)) = true := by kernel_rfl
    have := of_decide_eq_true (List.all_eq_true.1 hlen _ (hm.key h))
    omega
  have room : (([] : List aa).length + t.length) * 40 <= ai := by rw [aE]; simp; omega
  by_cases h1 : m.1 = 1
  · have d1 : decide (m.1 = 1) = true := av h1
    have e1 := aof t (m.2.1, m.2.2.1, m.2.2.2.2.2.2.1, ()) hs (by omega)
    have e2 := aeM t (m.2.1, m.2.2.1, m.2.2.2.2.2.2.1, ()) hs (by omega)
    unfold lw jv sF apM
    rw [if_pos h1]
    simp only [d1, cond_true, e1, e2]
    exact ⟨trivial, rfl⟩
  · have d1 : decide (m.1 = 1) = false := aF h1
    by_cases h2 : m.1 = 2
    · have d2 : decide (m.1 = 2) = true := av h2
      obtain ⟨o1, o2⟩ := aoa m.2.1 (klen (.inr h2))
      have e1 := ae7 t (m.2.1, m.2.1 ++ [0], ()) (.inr (amZ _)) hs (by omega)
      have e2 := yh t [(m.2.1, m.2.1 ++ [0], ())] (by omega) (by simp)
      rw [akW] at e2
      unfold lw jv sB acJ apM
      rw [if_neg h1, if_pos h2]
      simp only [d1, d2, cond_true, cond_false, o1, o2, e1, e2, and_self]
    · have d2 : decide (m.1 = 2) = false := aF h2
      by_cases h3 : m.1 = 3
      · have d3 : decide (m.1 = 3) = true := av h3
        have e1 := ae7 t m.2.2.2.1 (hm.span (.inl h3)) hs (by omega)
        have e2 := yh t [m.2.2.2.1] (by omega) (by simp)
        rw [akW] at e2
        unfold lw jv qv apM
        rw [if_neg h1, if_neg h2, if_pos h3]
        simp only [d1, d2, d3, cond_true, cond_false, e1, e2, and_self]
      · have d3 : decide (m.1 = 3) = false := aF h3
        by_cases h6 : m.1 = 6
        · have d6 : decide (m.1 = 6) = true := av h6
          have d4 : decide (m.1 = 4) = false := aF (by rw [h6]; decide)
          have d5 : decide (m.1 = 5) = false := aF (by rw [h6]; decide)
          have e1 := amk t m (by omega)
          have e2 := aml t m (by omega)
          unfold lw jv oH apM
          rw [if_neg h1, if_neg h2, if_neg h3, if_pos h6]
          simp only [d1, d2, d3, d4, d5, d6, cond_true, cond_false, ack t (show t.length < 1000000 by omega), e1, room, av, List.nil_append, e2, and_self]
        · have hmv : isMv m := by
            rcases hm.kind with h | h | h | h | h | h
            · exact absurd h h1
            · exact absurd h h2
            · exact absurd h h3
            · exact .inl h
            · exact .inr h
            · exact absurd h h6
          have ho : MvOK m := ⟨hmv, hm.from_ hmv, hm.to_ hmv, (hm.apart hmv).1, (hm.apart hmv).2⟩
          have pf := y5 (fD _ ho.from_)
          have pt := y5 (fD _ ho.to_)
          have hlen : paths5.all (fun p => decide (p.length <= 4)) = true := by kernel_rfl
          have lt := of_decide_eq_true (List.all_eq_true.1 hlen _ ho.to_)
          have hkk : ∀ p ∈ t, m.2.2.2.2.2.1.length + p.1.length < 1000000 := fun p hp => by have := hk p hp; omega
          have e2 := ajT t m hmv pf pt hs hl hkk
          have hap : apM t m = aft m t := by unfold apM; rw [if_neg h1, if_neg h2, if_neg h3, if_neg h6]
          rw [hap]
          refine ⟨?_, e2⟩
          unfold lw
          simp only [d1, d2, d3, cond_false]
          rcases hmv with h4 | h5
          · simp only [av h4, cond_true, amX t m ho h4 hs hl hkk]
          · have d4 : decide (m.1 = 4) = false := aF (by rw [h5]; decide)
            have hb : jo m t = t.filter fun x => !bgn x.1 m.2.2.2.2.2.1 := by unfold jo; rw [d4]; rfl
            have := agX t m pf pt hs hl hkk
            rw [<- hb] at this
            simp only [d4, cond_false, av h5, cond_true, this]
            rfl
abbrev ip : aj := (false, (false, ((0 : Int), ((([] : List (aa)), (([] : List (List UInt8)), (([] : List (Int)), (([] : List (api_Sum)), (([] : List (ae)), ()))))), ()))))
theorem zq (p : List aj) (h : p.length <= 100000) : qK ((p, ()), ()) = some (p, ()) := by
  have e1 : (decide ((0 : Int) <= ((List.length p) : Int)) && decide ((((List.length p) : Int) : Int) <= ((List.length p) : Int)) && decide (((List.length p) : Int) * (136 : Int) <= (ai : Int))) = true := by
    rw [av (by omega), av (Int.le_refl _), av (by rw [aE]; omega)]; rfl
  simp only [qK, e1, cond_true, Int.toNat_natCast, List.length_replicate, List.take_length, List.take_zero, List.nil_append]
  have : List.drop (0 + p.length) (List.replicate p.length ip) = [] := by simp
  rw [this, List.append_nil]
theorem abv {p : List aj} {i : Nat} (h : i < p.length) : lz ((p, ()), (i : Int), ()) = some (p[i].1, ()) := by
  have c1 : (decide ((i : Int) >= (0 : Int))) = true := av (by omega)
  have c2 : (decide ((i : Int) < ((List.length p) : Int))) = true := av (by omega)
  have c3 := dzz i
  simp only [lz, c1, c2, c3, cond_true, Bool.and_self, Int.toNat_natCast, aK h]
theorem aob {ns : List api_Node} {n : api_Node} {ks : List Nat} (hr : ∀ k ∈ ks, k < ns.length) (hl : ks.length <= 1000) :
    xg (kidsI ks, ((kidsI ks).length : Int), 0, (mk ns (fun _ => 1), ()), n, [], ()) = some (.inr ((mk ns (fun _ => 1), ()), n, [], ())) := by
  obtain ⟨z, h1, rfl⟩ := aU (b := nW) (fun i (_ : Unit) => (kidsI ks, ((kidsI ks).length : Int), (i : Int), (mk ns (fun _ => 1), ()), n, [], ())) ks.length (fun _ _ => True) (fun z => z = .inr ((mk ns (fun _ => 1), ()), n, [], ())) (by omega)
    (fun i hi _ _ => by
      left
      have e1 : (decide (((i : Nat) : Int) < ((List.length (kidsI ks)) : Int))) = true := av (by rw [bi]; omega)
      have e2 := dzz i
      have e3 := wr1 i (by omega)
      have hi' : ks[i] < (mk ns (fun _ => 1)).length := by rw [dP]; exact hr _ (List.getElem_mem hi)
      exact ⟨(), trivial, by simp only [nW, e1, e2, cond_true, Bool.and_self, Int.toNat_natCast, iD hi, abv hi', iE, Bool.not_true, cond_false, e3]⟩)
    (fun _ _ => by
      have e1 : (decide (((ks.length : Nat) : Int) < ((List.length (kidsI ks)) : Int))) = false := aF (by rw [bi]; omega)
      exact ⟨_, rfl, by simp only [nW, e1, cond_false]⟩) () trivial
  exact h1
theorem aoK {ns : List api_Node} (hl : ns.length <= 1000) : bU (mk ns (fun _ => 1), ()) = some ((-1 : Int), ()) := by
  obtain ⟨z, h1, rfl⟩ := aU (b := bo) (fun i (_ : Unit) => (mk ns (fun _ => 1), ((mk ns (fun _ => 1)).length : Int), (i : Int), ())) ns.length (fun _ _ => True) (fun z => z = .inr ()) (by omega)
    (fun i hi _ _ => by
      left
      have e1 : (decide (((i : Nat) : Int) < ((List.length (mk ns (fun _ => 1))) : Int))) = true := av (by rw [dP]; omega)
      have e2 := dzz i
      have e3 := wr1 i (by omega)
      exact ⟨(), trivial, by simp only [bo, e1, e2, cond_true, cond_false, Bool.and_self, Int.toNat_natCast, rG hi, aas, Bool.not_true, e3]⟩)
    (fun _ _ => by
      have e1 : (decide (((ns.length : Nat) : Int) < ((List.length (mk ns (fun _ => 1))) : Int))) = false := aF (by rw [dP]; omega)
      exact ⟨_, rfl, by simp only [bo, e1, cond_false]⟩) () trivial
  have h1' : cy (mk ns (fun _ => 1), ((mk ns (fun _ => 1)).length : Int), 0, ()) = some (.inr ()) := h1
  simp only [bU, h1']
theorem aoc {ns : List api_Node} {ks : List Nat} {c : Int} (q : List aj) (hr : ∀ k ∈ ks, k < ns.length) (hn : ks.Nodup) (hl : ks.length <= 1000) :
    xh (c, kidsI ks, ((kidsI ks).length : Int), 0, q, mk ns (fun _ => 1), ()) = some (.inl (c, q, mk ns (fun j => if j ∈ ks then 2 else 1), ())) := by
  obtain ⟨z, h1, h2⟩ := aU (b := nX) (fun i (l : List aj) => (c, kidsI ks, ((kidsI ks).length : Int), (i : Int), q, l, ())) ks.length (fun i l => l = mk ns (fun j => if j ∈ ks.take i then 2 else 1)) (fun z => z = .inl (c, q, mk ns (fun j => if j ∈ ks then 2 else 1), ())) (by omega)
    (fun i hi l hl => by
      left
      subst hl
      refine ⟨_, rfl, ?_⟩
      have hik : ks[i] < ns.length := hr _ (List.getElem_mem hi)
      have e1 : (decide (((i : Nat) : Int) < ((List.length (kidsI ks)) : Int))) = true := av (by rw [bi]; omega)
      have e2 := dzz i
      have e3 := wr1 i (by omega)
      have e4 : (decide ((0 : Int) <= ((ks[i] : Nat) : Int))) = true := av (by omega)
      have e5 : ∀ r, (decide (((ks[i] : Nat) : Int) < (List.length (mk ns r) : Int))) = true := fun r => av (by rw [dP]; omega)
      have hnot : ks[i] ∉ ks.take i := fun hm => by
        have h2 := bq hi
        have hnd : (ks.take (i + 1)).Nodup := hn.sublist (List.take_sublist _ _)
        rw [h2, List.nodup_append] at hnd
        exact hnd.2.2 _ hm _ (by simp) rfl
      simp only [nX, e1, e2, cond_true, Bool.and_self, Int.toNat_natCast, iD hi, e4, e5, rG hik, e3, if_neg hnot]
      have e6 : IntKind.i64.wrap ((1 : Int) + 1) = 2 := by rw [dK (by omega)]; omega
      have e8 : mk ns (fun j => if j = ks[i] then 2 else if j ∈ ks.take i then 2 else 1) = mk ns (fun j => if j ∈ ks.take (i + 1) then 2 else 1) := lZ fun j _ => by
        have hm : j ∈ ks.take (i + 1) ↔ (j ∈ ks.take i \/ j = ks[i]) := by rw [bq hi, List.mem_append, List.mem_singleton]
        by_cases hj : j = ks[i]
        · rw [if_pos hj, if_pos (hm.2 (.inr hj))]
        · rw [if_neg hj]
          by_cases h2 : j ∈ ks.take i
          · rw [if_pos h2, if_pos (hm.2 (.inl h2))]
          · rw [if_neg h2, if_neg (fun h => (hm.1 h).elim h2 hj)]
      rw [e6, ahV hik, e8])
    (fun l hl => by
      subst hl
      have e1 : (decide (((ks.length : Nat) : Int) < ((List.length (kidsI ks)) : Int))) = false := aF (by rw [bi]; omega)
      exact ⟨_, rfl, by simp only [nX, e1, cond_false, List.take_length]⟩) (mk ns (fun _ => 1)) (lZ fun j _ => by simp)
  subst h2
  exact h1
theorem aod {ns : List api_Node} {n : api_Node} {ks : List Nat} (hk : n.2.2.1 = kidsI ks) (hr : ∀ k ∈ ks, k < ns.length) (hn : ks.Nodup) (hl : ks.length <= 1000) (hnl : ns.length <= 900) :
    qJ ((mk ns (fun _ => 1), ()), n, ()) = some ((mk (ns ++ [n]) (fun j => if j ∈ ks then 2 else 1), ()), (ns.length : Int), (0 : Int), ()) := by
  have e1 : (decide (((ns.length : Nat) : Int) >= 4096)) = false := aF (by omega)
  have hlen : (mk ns (fun _ => 1)).length = ns.length := dP _ _
  have e2 : (decide (((ns.length : Nat) : Int) = ((List.length (mk ns (fun _ => 1))) : Int))) = true := av (by rw [hlen])
  have e3 : ∀ d : aj, (decide ((List.length (mk ns (fun _ => 1)) + List.length ([d] : List (aj))) * 136 <= ai)) = true := fun d => av (by rw [hlen, aE]; simp; omega)
  have e4 : (decide ((0 : Int) <= ((ns.length : Nat) : Int))) = true := av (by omega)
  have e5 : ∀ d : aj, (decide (((ns.length : Nat) : Int) < (List.length (mk ns (fun _ => 1) ++ [d]) : Int))) = true := fun d => av (by simp [hlen]; omega)
  have e6 : ((List.length (mk ns (fun _ => 1)) : Nat) : Int) = (ns.length : Int) := by rw [hlen]
  have e7 : (decide ((-1 : Int) < (0 : Int))) = true := rfl
  have e8 : ∀ d : aj, List.set (mk ns (fun _ => 1) ++ [d]) ns.length (true, (false, ((1 : Int), (n, ())))) = mk (ns ++ [n]) (fun _ => 1) := fun d => by
    rw [<- alk ns n (fun _ => 1), List.set_append_right _ _ (by rw [hlen]; exact Nat.le_refl _)]
    simp [hlen]
  have e9 := aob (n := n) hr hl
  have e10 := aoK (ns := ns) (by omega)
  have e11 := zq (mk ns (fun _ => 1)) (by rw [hlen]; omega)
  have e12 := aoc (ns := ns ++ [n]) (ks := ks) (c := (ns.length : Int)) [] (fun k hk' => by have := hr k hk'; simp; omega) hn hl
  simp only [qJ, hk, e9, e10, e7, cond_true, xe, e6, e1, cond_false, e11, e3, xf, e4, e5, Bool.and_self, Int.toNat_natCast, e8, e12, decide_true]
theorem anc {ns : List api_Node} {n : api_Node} {ks : List Nat} {root : Nat} (hroot : ns[root]? = some n) (hk : n.2.2.1 = kidsI ks) (hr : ∀ k ∈ ks, k < ns.length) (hne : root ∉ ks) (hn : ks.Nodup) (hl : ks.length <= 1000) (hnl : ns.length <= 1000) :
    pC ((mk ns (fun j => if j ∈ ks then 2 else 1), ()), (root : Int), ()) = some (((mk ns (fun _ => 1)).set root ip, ()), (0 : Int), ()) := by
  have hlt := (List.getElem?_eq_some_iff.1 hroot).1
  have hN : ns[root]'hlt = n := (List.getElem?_eq_some_iff.1 hroot).2
  have hlen : ∀ r, (mk ns r).length = ns.length := fun r => dP _ _
  have u1 := abv (p := mk ns (fun j => if j ∈ ks then 2 else 1)) (i := root) (by rw [hlen]; exact hlt)
  rw [iE] at u1
  have c1 := zq (mk ns (fun j => if j ∈ ks then 2 else 1)) (by rw [hlen]; omega)
  -- first the node itself, then its kids from the last
  have hl0 : uJ ([], [(root : Int)], mk ns (fun j => if j ∈ ks then 2 else 1), ()) = some (.inl ([], (mk ns (fun _ => 1)).set root ip, ())) := by
    obtain ⟨z, h1, h2⟩ := aU (b := jO) (fun i (q : List Int × List aj) => ([], q.1, q.2, ())) (ks.length + 1)
      (fun i q => (i = 0 -> q = ([(root : Int)], mk ns (fun j => if j ∈ ks then 2 else 1))) /\ (0 < i -> q = (kidsI (ks.take (ks.length + 1 - i)), (mk ns (fun j => if j ∈ ks.take (ks.length + 1 - i) then 2 else 1)).set root ip)))
      (fun z => z = .inl ([], (mk ns (fun _ => 1)).set root ip, ())) (by omega)
      (fun i hi q hq => by
        left
        by_cases h0 : i = 0
        · have hq1 := hq.1 h0
          subst hq1 h0
          have e1 : (decide ((((List.length ([(root : Int)] : List Int)) : Int) : Int) > (0 : Int))) = true := rfl
          have w1 : IntKind.i64.wrap (((List.length ([(root : Int)] : List Int)) : Int) - 1) = 0 := rfl
          have e2 : (decide ((0 : Int) <= (0 : Int))) = true := rfl
          have e3 : (decide ((0 : Int) < ((List.length ([(root : Int)] : List Int)) : Int))) = true := rfl
          have e3b : (decide ((0 : Int) <= ((List.length ([(root : Int)] : List Int)) : Int))) = true := rfl
          have g1 : List.getD ([(root : Int)] : List Int) 0 0 = (root : Int) := rfl
          have e4 := dzz root
          have e5 : ∀ r, (decide ((root : Int) < ((mk ns r).length : Int))) = true := fun r => av (by rw [hlen]; omega)
          have w2 : IntKind.i64.wrap ((1 : Int) - 1) = 0 := rfl
          have hset : ∀ v : aj, ((mk ns (fun j => if j ∈ ks then 2 else 1)).set root v).length = ns.length := fun v => by rw [List.length_set, hlen]
          have g2 : ∀ v d : aj, List.getD ((mk ns (fun j => if j ∈ ks then 2 else 1)).set root v) root d = v := fun v d => by
            rw [aK (by rw [hset]; exact hlt)]
            simp
          have e6 : (decide ((0 : Int) > (0 : Int))) = false := rfl
          have e7 : (decide ((List.length ([] : List Int) + List.length (kidsI ks)) * 8 <= ai)) = true := av (by rw [aE, bi]; simp; omega)
          have g3 : ∀ v w : aj, ((mk ns (fun j => if j ∈ ks then 2 else 1)).set root v).set root w = (mk ns (fun j => if j ∈ ks then 2 else 1)).set root w := fun v w => List.set_set _
          refine ⟨(kidsI ks, (mk ns (fun j => if j ∈ ks then 2 else 1)).set root ip), ⟨fun h => by omega, fun _ => ?_⟩, ?_⟩
          · rw [show ks.length + 1 - (0 + 1) = ks.length by omega, List.take_length]
          · simp only [jO, e1, cond_true, w1, e2, e3, e3b, Bool.and_self, g1, e4, e5, Int.toNat_natCast, rG hlt, hN, if_neg hne, w2, g2, e6, cond_false, Int.toNat_zero, hk, e7, g3, List.take_zero, List.nil_append]
        · have hq1 := hq.2 (by omega)
          subst hq1
          obtain ⟨j, hj⟩ : ∃ j, ks.length + 1 - i = j + 1 := ⟨ks.length - i, by omega⟩
          have hjk : j < ks.length := by omega
          rw [hj]
          have htk : kidsI (ks.take (j + 1)) = kidsI (ks.take j) ++ [((ks[j] : Nat) : Int)] := by
            unfold kidsI
            rw [bq hjk, List.map_append]
            rfl
          have htl : (kidsI (ks.take (j + 1))).length = j + 1 := by rw [bi, List.length_take]; omega
          obtain ⟨st, hst⟩ : ∃ st, kidsI (ks.take (j + 1)) = st := ⟨_, rfl⟩
          have hkj : ks[j] < ns.length := hr _ (List.getElem_mem hjk)
          have hkr : ks[j] ≠ root := fun h => hne (h ▸ List.getElem_mem hjk)
          have hmem : ks[j] ∈ ks.take (j + 1) := by rw [bq hjk]; exact List.mem_append.2 (.inr (List.mem_singleton.2 rfl))
          have hnot : ks[j] ∉ ks.take j := fun hm => by
            have hnd : (ks.take (j + 1)).Nodup := hn.sublist (List.take_sublist _ _)
            rw [bq hjk, List.nodup_append] at hnd
            exact hnd.2.2 _ hm _ (by simp) rfl
          have e1 : (decide ((((List.length (kidsI (ks.take (j + 1)))) : Int) : Int) > (0 : Int))) = true := av (by rw [htl]; omega)
          have w1 : IntKind.i64.wrap (((List.length (kidsI (ks.take (j + 1)))) : Int) - 1) = (j : Int) := by rw [htl, dK (by omega)]; omega
          have e2 := dzz j
          have e3 : (decide ((j : Int) < ((List.length (kidsI (ks.take (j + 1)))) : Int))) = true := av (by rw [htl]; omega)
          have e3b : (decide ((j : Int) <= ((List.length (kidsI (ks.take (j + 1)))) : Int))) = true := av (by rw [htl]; omega)
          have g1 : List.getD (kidsI (ks.take (j + 1))) j 0 = ((ks[j] : Nat) : Int) := by rw [htk]; exact wW (by rw [bi, List.length_take]; omega)
          have e4 : (decide ((0 : Int) <= ((ks[j] : Nat) : Int))) = true := av (by omega)
          obtain ⟨P, hP⟩ : ∃ P, (mk ns (fun x => if x ∈ ks.take (j + 1) then 2 else 1)).set root ip = P := ⟨_, rfl⟩
          have hPl : P.length = ns.length := by rw [<- hP, List.length_set, hlen]
          have hPg : ∀ d, List.getD P ks[j] d = (true, (false, ((2 : Int), (ns[ks[j]], ())))) := fun d => by
            rw [aK (by omega)]
            simp only [<- hP]
            rw [List.getElem_set_ne (Ne.symm hkr), iE]
            simp [hmem]
          have e5 : (decide (((ks[j] : Nat) : Int) < (P.length : Int))) = true := av (by omega)
          have w2 : IntKind.i64.wrap ((2 : Int) - 1) = 1 := rfl
          have g2 : ∀ v d : aj, List.getD (P.set ks[j] v) ks[j] d = v := fun v d => by
            rw [aK (by rw [List.length_set]; omega)]
            simp
          have e6 : (decide ((1 : Int) > (0 : Int))) = true := rfl
          have htk2 : List.take j (kidsI (ks.take (j + 1))) = kidsI (ks.take j) := by
            rw [htk, List.take_append_of_le_length (by rw [bi, List.length_take]; omega), List.take_of_length_le (by rw [bi, List.length_take]; omega)]
          have hset : P.set ks[j] (true, (false, ((1 : Int), (ns[ks[j]], ())))) = (mk ns (fun x => if x ∈ ks.take j then 2 else 1)).set root ip := by
            rw [<- hP, List.set_comm _ _ hkr.symm, ahV hkj]
            congr 1
            refine lZ fun x _ => ?_
            have hm : x ∈ ks.take (j + 1) ↔ (x ∈ ks.take j \/ x = ks[j]) := by rw [bq hjk, List.mem_append, List.mem_singleton]
            by_cases hx : x = ks[j]
            · rw [if_pos hx, if_neg (by rw [hx]; exact hnot)]
            · rw [if_neg hx]
              by_cases h2 : x ∈ ks.take j
              · rw [if_pos h2, if_pos (hm.2 (.inl h2))]
              · rw [if_neg h2, if_neg (fun h => (hm.1 h).elim h2 hx)]
          have g3 : ∀ d : aj, List.getD ((mk ns (fun x => if x ∈ ks.take j then 2 else 1)).set root ip) ks[j] d = (true, (false, ((1 : Int), (ns[ks[j]], ())))) := fun d => by rw [<- hset]; exact g2 _ _
          rw [hP]
          refine ⟨(kidsI (ks.take j), (mk ns (fun x => if x ∈ ks.take j then 2 else 1)).set root ip), ⟨fun h => by omega, fun _ => ?_⟩, ?_⟩
          · rw [show ks.length + 1 - (i + 1) = j by omega]
          · simp only [jO, e1, cond_true, w1, e2, e3, e3b, Bool.and_self, Int.toNat_natCast, g1, e4, e5, hPg, w2, htk2, hset, g3, e6])
      (fun q hq => by
        have hq1 := hq.2 (by omega)
        subst hq1
        rw [show ks.length + 1 - (ks.length + 1) = 0 by omega]
        have e1 : (decide ((((List.length (kidsI (ks.take 0))) : Int) : Int) > (0 : Int))) = false := rfl
        have e2 : mk ns (fun j => if j ∈ ks.take 0 then 2 else 1) = mk ns (fun _ => 1) := lZ fun j _ => by simp
        exact ⟨_, rfl, by simp only [jO, e1, cond_false, e2]⟩) ([(root : Int)], mk ns (fun j => if j ∈ ks then 2 else 1)) ⟨fun _ => rfl, fun h => by omega⟩
    subst h2
    exact h1
  simp only [pC, u1, Bool.not_true, cond_false, c1, hl0]
def tA (a b : List UInt8) : Bool := !decide (a = []) && (decide (b = []) || Op.bytesLess a b)
def oC (a b : List UInt8) : List UInt8 := bif tA b a then b else a
def ahT (a b : List UInt8) : List UInt8 := bif !(Op.bytesLess a b) then a else b
def qm (s : ac) : Bool := !decide (s.2.1 = []) && (Op.bytesLess s.2.1 s.1 || decide (s.2.1 = s.1))
theorem alP (a b : List UInt8) : kT (a, b, ()) = some (tA a b, ()) := by
  simp only [kT, tA]
  cases decide (a = []) <;> cases decide (b = []) <;> rfl
theorem ae9 (s : ac) : gC (s, ()) = some (qm s, ()) := by
  simp only [gC, qm]
  cases decide (s.2.1 = []) <;> rfl
theorem abH (s : ac) : fV (s, ()) = some (qm s, ()) := by
  simp only [fV, qm]
  cases decide (s.2.1 = []) <;> rfl
def tch (a b : ac) : Bool := !qm (ahT a.1 b.1, (oC a.2.1 b.2.1, ()))
def ahl (a b : ac) : ac := bif tch a b then (ahT a.1 b.1, (oC a.2.1 b.2.1, ())) else ([97], ([97], ()))
theorem alR (a b : ac) : jr (a, b, ()) = some (ahl a b, ()) := by
  have e : ∀ lo hi, iP (([] : List UInt8), ([] : List UInt8), lo, hi, ()) = some ((bif !qm (lo, (hi, ())) then (lo, (hi, ())) else ([97], ([97], ()))), ()) := fun lo hi => by
    simp only [iP, ae9, uP]
    cases qm (lo, (hi, ())) <;> rfl
  simp only [jr, alP, e]
  show (bif tA b.2.1 a.2.1 then _ else _) = _
  unfold ahl tch oC ahT
  cases tA b.2.1 a.2.1 <;> rfl
theorem akc (a b : List UInt8) : ∃ c, jV (a, b, ()) = some (c, ()) /\ decide (c < 0) = tA a b := by
  have eN : ∀ y : List UInt8, fN (y, ()) = some (false, ()) := fun y => by simp [fN]
  simp only [jV]
  by_cases hab : a = b
  · subst hab
    refine ⟨0, by simp only [decide_true, cond_true], ?_⟩
    unfold tA
    rw [cl]
    cases decide (a = []) <;> rfl
  · by_cases ha : a = []
    · refine ⟨1, by simp only [aF hab, cond_false, av ha, cond_true], ?_⟩
      unfold tA
      rw [av ha]
      rfl
    · by_cases hb : b = []
      · refine ⟨-1, by simp only [aF hab, cond_false, aF ha, av hb, cond_true], ?_⟩
        unfold tA
        rw [aF ha, av hb]
        rfl
      · cases hl : Op.bytesLess a b with
        | true =>
          refine ⟨-1, by simp only [aF hab, aF ha, aF hb, cond_false, gm, eN, hl, cond_true], ?_⟩
          unfold tA
          rw [aF ha, aF hb, hl]
          rfl
        | false =>
          refine ⟨1, by simp only [aF hab, aF ha, aF hb, cond_false, gm, eN, hl, Bool.or_false, Bool.not_false, cond_true], ?_⟩
          unfold tA
          rw [aF ha, aF hb, hl]
          rfl
theorem amR (a b : List UInt8) : vh ([a, b], ()) = some (oC a b, ()) := by
  obtain ⟨c, h1, h2⟩ := akc b a
  have e0 : (decide ((((List.length ([a, b] : List (List UInt8))) : Int) : Int) < (1 : Int))) = false := rfl
  have e1 : (decide ((0 : Int) < (List.length ([a, b] : List (List UInt8)) : Int))) = true := rfl
  have e2 : (decide ((1 : Int) < ((List.length ([a, b] : List (List UInt8))) : Int))) = true := rfl
  have e3 : (decide ((0 : Int) <= (1 : Int))) = true := rfl
  have e4 : (decide ((2 : Int) < ((List.length ([a, b] : List (List UInt8))) : Int))) = false := rfl
  have g0 : List.getD ([a, b] : List (List UInt8)) 0 [] = a := rfl
  have g1 : List.getD ([a, b] : List (List UInt8)) (Int.toNat 1) [] = b := rfl
  have w : IntKind.i64.wrap ((1 : Int) + 1) = 2 := rfl
  have b1 : bc ([a, b], a, 1, ()) = some (.inl ([a, b], oC a b, 2, ())) := by
    simp only [bc, e2, e3, Bool.and_self, cond_true, g1, h1, h2, w]
    unfold oC
    cases tA b a <;> rfl
  have b2 : bc ([a, b], oC a b, 2, ()) = some (.inr (.inl (oC a b, ()))) := by
    simp only [bc, e4, cond_false]
  have h : cO ([a, b], a, 1, ()) = some (.inl (oC a b, ())) := ia (n := 2) (by rw [gv]; omega) (by simp only [eC, b1, b2])
  simp only [vh, dA, e0, e1, cond_false, cond_true, g0, h]
theorem aj7 (a b : ac) : pG (a, b, ()) = some (ahl a b, ()) := by
  simp only [pG, amR, abH]
  unfold ahl tch ahT
  cases qm _ <;> rfl
theorem aeW (a b : ac) : qm (ahl a b) = !tch a b := by
  unfold ahl
  cases h : tch a b
  · rfl
  · rw [cond_true]
    unfold tch at h
    rw [Bool.not_eq_true'] at h
    exact h
theorem ajl {a b k : List UInt8} : Op.bytesLess k (ahT a b) = false ↔ Op.bytesLess k a = false /\ Op.bytesLess k b = false := by
  unfold ahT
  cases h : Op.bytesLess a b
  · simp only [Bool.not_false, cond_true]
    refine ⟨fun h1 => ⟨h1, ?_⟩, fun h1 => h1.1⟩
    cases h2 : Op.bytesLess k b
    · rfl
    · rcases dC a b with h3 | h3 | h3
      · rw [h] at h3; cases h3
      · rw [h3, h2] at h1; cases h1
      · rw [bR h2 h3] at h1; cases h1
  · simp only [Bool.not_true, cond_false]
    refine ⟨fun h1 => ⟨?_, h1⟩, fun h1 => h1.2⟩
    cases h2 : Op.bytesLess k a
    · rfl
    · rw [bR h2 h] at h1; cases h1
theorem aeR {a b k : List UInt8} : (oC a b = [] \/ Op.bytesLess k (oC a b) = true) ↔ (a = [] \/ Op.bytesLess k a = true) /\ (b = [] \/ Op.bytesLess k b = true) := by
  unfold oC tA
  by_cases hb : b = []
  · subst hb
    simp
  · by_cases ha : a = []
    · subst ha
      simp [hb]
    · have e : (bif (!decide (b = []) && (decide (a = []) || Op.bytesLess b a)) then b else a) = (bif Op.bytesLess b a then b else a) := by
        rw [aF hb, aF ha]
        rfl
      rw [e]
      cases h : Op.bytesLess b a
      · simp only [cond_false, ha, hb, false_or]
        refine ⟨fun h1 => ⟨h1, ?_⟩, fun h1 => h1.1⟩
        rcases dC a b with h3 | h3 | h3
        · exact bR h1 h3
        · rw [<- h3]; exact h1
        · rw [h] at h3; cases h3
      · simp only [cond_true, ha, hb, false_or]
        exact ⟨fun h1 => ⟨bR h1 h, h1⟩, fun h1 => h1.2⟩
theorem kt {s : ac} {k : List UInt8} : er s k = true ↔ Op.bytesLess k s.1 = false /\ (s.2.1 = [] \/ Op.bytesLess k s.2.1 = true) := by
  unfold er
  simp only [Bool.and_eq_true, Bool.not_eq_true', Bool.or_eq_true, decide_eq_true_eq]
theorem aiy {a b : ac} : tch a b = true ↔ ∃ k, er a k = true /\ er b k = true := by
  have key : ∀ lo hi : List UInt8, qm (lo, (hi, ())) = false ↔ (hi = [] \/ Op.bytesLess lo hi = true) := fun lo hi => by
    unfold qm
    by_cases h : hi = []
    · simp [h]
    · rw [aF h]
      simp only [Bool.not_false, Bool.true_and, Bool.or_eq_false_iff, decide_eq_false_iff_not]
      constructor
      · rintro ⟨h1, h2⟩
        right
        rcases dC lo hi with h3 | h3 | h3
        · exact h3
        · exact absurd h3.symm h2
        · rw [h1] at h3; cases h3
      · rintro (h1 | h1)
        · exact absurd h1 h
        · exact ⟨iO h1, fun h2 => by rw [h2, cl] at h1; cases h1⟩
  unfold tch
  rw [Bool.not_eq_true', key]
  constructor
  · intro h
    have h1 := aeR.1 h
    have h2 := ajl.1 (cl (ahT a.1 b.1))
    exact ⟨ahT a.1 b.1, kt.2 ⟨h2.1, h1.1⟩, kt.2 ⟨h2.2, h1.2⟩⟩
  · rintro ⟨k, h1, h2⟩
    obtain ⟨a1, a2⟩ := kt.1 h1
    obtain ⟨b1, b2⟩ := kt.1 h2
    have h3 := aeR.2 ⟨a2, b2⟩
    have h4 := ajl.2 ⟨a1, b1⟩
    rcases h3 with h3 | h3
    · exact .inl h3
    · right
      rcases dC (ahT a.1 b.1) k with h5 | h5 | h5
      · exact bR h5 h3
      · rw [h5]; exact h3
      · rw [h4] at h5; cases h5
def adR (m : ae) : List ac := ((fQ (m, ())).map (·.1)).getD []
def tm (p : ac) (m : ae) : Bool := (adR m).any fun w => tch w p
theorem anE {m : ae} (hm : MadeM m) : fQ (m, ()) = some (adR m, ()) /\ bj (m, ()) = some (adR m, ()) /\ (adR m).length <= 2 := by
  obtain ⟨-, R, W, -, -, h3, h4, -, h6⟩ := aeU hm
  have e : adR m = W := by unfold adR; rw [h3]; rfl
  rw [e]
  exact ⟨h3, h4, h6⟩
theorem alB (W : List ac) (p : ac) (hl : W.length <= 1000) : bm (W, p, ()) = some (W.any (fun w => tch w p), W, p, ()) := by
  obtain ⟨z, h1, h2⟩ := aU (b := bp) (fun i (_ : Unit) => ((W.length : Int), (i : Int), W, p, ())) W.length (fun i _ => (W.take i).any (fun w => tch w p) = false) (fun z => (z = .inr (W, p, ()) /\ W.any (fun w => tch w p) = false) \/ (∃ i : Nat, z = .inl ((i : Int), W, p, ()) /\ W.any (fun w => tch w p) = true)) (by omega)
    (fun i hi _ hq => by
      have e1 := dlt (i := i) (l := W) (by omega)
      have e2 := dzz i
      have e3 := wr1 i (by omega)
      simp only [bp, e1, e2, cond_true, Bool.and_self, Int.toNat_natCast, aK hi, lV, aj7, abH, aeW, Bool.not_not, e3]
      cases h : tch W[i] p
      · refine .inl ⟨(), ?_, rfl⟩
        rw [bq hi, List.any_append, hq]
        simp [h]
      · exact .inr ⟨_, .inr ⟨i, rfl, List.any_eq_true.2 ⟨_, List.getElem_mem hi, h⟩⟩, rfl⟩)
    (fun _ hq => by
      have e1 := dnl W
      rw [List.take_length] at hq
      exact ⟨_, .inl ⟨rfl, hq⟩, by simp only [bp, e1, cond_false]⟩) () rfl
  have h1' : cz ((W.length : Int), 0, W, p, ()) = some z := h1
  rcases h2 with ⟨rfl, h3⟩ | ⟨i, rfl, h3⟩
  · simp only [bm, bV, h1', h3]
    rfl
  · have e : (decide ((i : Int) >= (0 : Int))) = true := av (by omega)
    simp only [bm, bV, h1', h3, e]
theorem ah9 {m : ae} (hm : MadeM m) (p : ac) : iI (m, p, ()) = some (!tm p m, p, ()) := by
  obtain ⟨h1, -, h3⟩ := anE hm
  simp only [iI, h1, alB _ p (show (adR m).length <= 1000 by omega)]
  rfl
theorem ao9 (l : List ae) (p : ac) (hl : l.length <= 100000) (h : ∀ m ∈ l, MadeM m) :
    (bn (l, p, ()) = some ((-1 : Int), l, p, ()) /\ l.filter (tm p) = l) \/ ∃ i : Nat, i < l.length /\ bn (l, p, ()) = some ((i : Int), l, p, ()) /\ (l.take (i + 1)).filter (tm p) = l.take i := by
  obtain ⟨z, h1, h2⟩ := aU (b := bw) (fun i (_ : Unit) => ((l.length : Int), (i : Int), l, p, ())) l.length (fun i _ => (l.take i).filter (tm p) = l.take i) (fun z => (z = .inr (l, p, ()) /\ l.filter (tm p) = l) \/ (∃ i : Nat, i < l.length /\ z = .inl ((i : Int), l, p, ()) /\ (l.take (i + 1)).filter (tm p) = l.take i)) (by omega)
    (fun i hi _ hq => by
      have e1 := dlt (i := i) (l := l) (by omega)
      have e2 := dzz i
      have e3 := wr1 i (by omega)
      simp only [bw, e1, e2, cond_true, Bool.and_self, Int.toNat_natCast, aK hi, ah9 (h _ (List.getElem_mem hi)), e3]
      cases ht : tm p l[i]
      · refine .inr ⟨_, .inr ⟨i, hi, rfl, ?_⟩, rfl⟩
        rw [bq hi, List.filter_append, hq]
        simp [ht]
      · refine .inl ⟨(), ?_, rfl⟩
        rw [bq hi, List.filter_append, hq]
        simp [ht])
    (fun _ hq => by
      have e1 := dnl l
      rw [List.take_length] at hq
      exact ⟨_, .inl ⟨rfl, hq⟩, by simp only [bw, e1, cond_false]⟩) () rfl
  have h1' : cN ((l.length : Int), 0, l, p, ()) = some z := h1
  rcases h2 with ⟨rfl, h3⟩ | ⟨i, hi, rfl, h3⟩
  · exact .inl ⟨by simp only [bn, h1'], h3⟩
  · exact .inr ⟨i, hi, by simp only [bn, h1'], h3⟩
theorem anM (l : List ae) (p : ac) (hl : l.length <= 100000) (h : ∀ m ∈ l, MadeM m) : bD (l, p, ()) = some (p, l.filter (tm p), ()) := by
  rcases ao9 l p hl h with ⟨h1, h2⟩ | ⟨i0, hi0, h1, h2⟩
  · have e : (decide ((-1 : Int) = (-1 : Int))) = true := rfl
    simp only [bD, h1, decide_true, cond_true, h2]
  · have e : (decide ((i0 : Int) = (-1 : Int))) = false := aF (by omega)
    have w0 := wr1 i0 (by omega)
    have hlen : ∀ j, ((l.take j).filter (tm p)).length <= j := fun j => Nat.le_trans (List.length_filter_le _ _) (by rw [List.length_take]; omega)
    obtain ⟨z, g1, g2⟩ := aU (b := aZ) (fun k (s : List ae) => (((((l.take (i0 + 1 + k)).filter (tm p)).length : Nat) : Int), ((i0 + 1 + k : Nat) : Int), s, p, ())) (l.length - (i0 + 1))
      (fun k s => s.length = l.length /\ s.take ((l.take (i0 + 1 + k)).filter (tm p)).length = (l.take (i0 + 1 + k)).filter (tm p) /\ s.drop (i0 + 1 + k) = l.drop (i0 + 1 + k) /\ ((l.take (i0 + 1 + k)).filter (tm p)).length < i0 + 1 + k)
      (fun z => ∃ s : List ae, z = .inl ((((l.filter (tm p)).length : Nat) : Int), s, p, ()) /\ s.length = l.length /\ s.take (l.filter (tm p)).length = l.filter (tm p)) (by omega)
      (fun k hk s hs => by
        left
        obtain ⟨s1, s2, s3, s4⟩ := hs
        obtain ⟨j, hj⟩ : ∃ j, i0 + 1 + k = j := ⟨_, rfl⟩
        rw [show i0 + 1 + (k + 1) = j + 1 by omega]
        rw [hj] at s2 s3 s4 ⊢
        have hjl : j < l.length := by omega
        have hjs : j < s.length := by omega
        have hsj : s[j] = l[j] := by
          have a1 := List.drop_eq_getElem_cons hjs
          have a2 := List.drop_eq_getElem_cons hjl
          rw [s3, a2] at a1
          exact (List.cons.inj a1).1.symm
        have hdj : s.drop (j + 1) = l.drop (j + 1) := by
          have a1 := List.drop_eq_getElem_cons hjs
          have a2 := List.drop_eq_getElem_cons hjl
          rw [s3, a2] at a1
          exact (List.cons.inj a1).2.symm
        have e1 := dlt (i := j) (l := s) (by omega)
        have e2 := dzz j
        have e3 := wr1 j (by omega)
        obtain ⟨c, hc⟩ : ∃ c, ((l.take j).filter (tm p)).length = c := ⟨_, rfl⟩
        have hcj : c <= j := by rw [<- hc]; exact hlen j
        have hts : (l.take (j + 1)).filter (tm p) = (l.take j).filter (tm p) ++ [l[j]].filter (tm p) := by rw [bq hjl, List.filter_append]
        cases ht : tm p l[j] with
        | false =>
          have hts2 : (l.take (j + 1)).filter (tm p) = (l.take j).filter (tm p) := by rw [hts]; simp [ht]
          refine ⟨s, ⟨s1, by rw [hts2]; exact s2, hdj, by rw [hts2]; omega⟩, ?_⟩
          rw [hts2]
          simp only [aZ, e1, e2, cond_true, Bool.and_self, Int.toNat_natCast, aK hjs, hsj, ah9 (h _ (List.getElem_mem hjl)), ht, Bool.not_false, Bool.not_true, cond_false, e3]
        | true =>
          have hts2 : (l.take (j + 1)).filter (tm p) = (l.take j).filter (tm p) ++ [l[j]] := by rw [hts]; simp [ht]
          have hl2 : ((l.take (j + 1)).filter (tm p)).length = c + 1 := by rw [hts2, List.length_append, hc]; rfl
          rw [hc] at s2 s4
          have e4 := dzz c
          have e5 : (decide ((c : Int) < ((List.length s) : Int))) = true := av (by omega)
          have e6 := wr1 c (by omega)
          refine ⟨s.set c l[j], ⟨by rw [List.length_set]; exact s1, ?_, ?_, ?_⟩, ?_⟩
          · rw [hl2, hts2]
            have hcs : c < (s.set c l[j]).length := by rw [List.length_set]; omega
            rw [bq hcs, List.take_set_of_le (Nat.le_refl _), s2]
            simp
          · rw [List.drop_set_of_lt (by omega)]
            exact hdj
          · rw [hl2]; omega
          · rw [hl2, hc]
            simp only [aZ, e1, e2, e4, e5, cond_true, Bool.and_self, Int.toNat_natCast, aK hjs, hsj, ah9 (h _ (List.getElem_mem hjl)), ht, Bool.not_true, Bool.not_false, e3, e6])
      (fun s hs => by
        obtain ⟨s1, s2, s3, s4⟩ := hs
        rw [show i0 + 1 + (l.length - (i0 + 1)) = l.length by omega] at s2 s3 s4 ⊢
        rw [List.take_length] at s2 s4 ⊢
        have e1 : (decide (((l.length : Nat) : Int) < ((List.length s) : Int))) = false := aF (by omega)
        exact ⟨_, ⟨s, rfl, s1, s2⟩, by simp only [aZ, e1, cond_false]⟩) l (by
        refine ⟨rfl, ?_, rfl, ?_⟩
        · rw [Nat.add_zero, h2, List.length_take, Nat.min_eq_left (by omega)]
        · rw [Nat.add_zero, h2, List.length_take]; omega)
    obtain ⟨s, rfl, s1, s2⟩ := g2
    have hst : ((((l.take (i0 + 1 + 0)).filter (tm p)).length : Nat) : Int) = (i0 : Int) := by rw [Nat.add_zero, h2, List.length_take, Nat.min_eq_left (by omega)]
    have g1' : cC ((i0 : Int), ((i0 + 1 : Nat) : Int), l, p, ()) = some (.inl ((((l.filter (tm p)).length : Nat) : Int), s, p, ())) := by
      rw [<- hst]
      exact g1
    have hfl : (l.filter (tm p)).length <= l.length := List.length_filter_le _ _
    obtain ⟨c, hc⟩ : ∃ c, (l.filter (tm p)).length = c := ⟨_, rfl⟩
    rw [hc] at g1' s2 hfl
    have e4 := dzz c
    have e5 : (decide ((c : Int) <= ((List.length s) : Int))) = true := av (by omega)
    have e6 : (decide (((List.length s) : Int) <= ((List.length s) : Int))) = true := av (Int.le_refl _)
    have e7 : ∀ r : List ae, (decide ((c : Int) <= ((List.length (List.take c s ++ r)) : Int))) = true := fun r => av (by rw [List.length_append, List.length_take]; omega)
    have e8 : ∀ r : List ae, List.take c (List.take c s ++ r) = l.filter (tm p) := fun r => by
      rw [List.take_append_of_le_length (by rw [List.length_take]; omega), List.take_take, Nat.min_self, s2]
    simp only [bD, h1, e, cond_false, w0, g1', e4, e5, decide_true, Bool.and_self, Bool.true_and, cond_true, Int.toNat_natCast, List.append_assoc, e7, e8, e6]
theorem amE (n : Nat) (h : n < 1000000) : dd ((n : Int), ()) = some (([] : List ae), ()) := by
  unfold dd
  have w0 : IntKind.i64.wrap ((0 : Int) - 0) = 0 := by decide
  have w1 : IntKind.i64.wrap ((n : Int) - 0) = (n : Int) := by rw [dK (by omega)]; omega
  have c1 : ¬ ((n : Int) < 0) := by omega
  simp only [w0, w1, aF c1, cond_false]
  by_cases hn : n = 0
  · subst hn
    have : ¬ (((0 : Nat) : Int) > 0) := by decide
    simp only [aF this, cond_false]
  · have c2 : ((n : Int) > 0) := by omega
    have c3 : ((0 : Int) < (n : Int)) := by omega
    have c4 : ((n : Int) * 112 <= (ai : Int)) := by rw [aE]; omega
    have c5 : ((0 : Int) <= ((List.replicate (Int.toNat (n : Int)) ((0 : Int), (([] : List UInt8), (([] : List UInt8), ((([] : List UInt8), (([] : List UInt8), ())), (([] : List UInt8), (([] : List UInt8), ((0 : Int), ())))))))).length : Int)) := by omega
    simp only [c2, c3, c4, c5, av, Bool.and_self, cond_true, List.take_zero]
theorem aai (a b : List ae) (h : a.length + b.length < 1000000) : cI ([a, b], ()) = some (a ++ b, ()) := by
  have w1 : IntKind.i64.wrap ((0 : Int) + (a.length : Int)) = (a.length : Int) := by rw [dK (by omega)]; omega
  have w2 : IntKind.i64.wrap ((a.length : Int) + (b.length : Int)) = ((a.length + b.length : Nat) : Int) := by rw [dK (by omega)]; omega
  have w3 : IntKind.i64.wrap ((0 : Int) + 1) = 1 := by decide
  have w4 : IntKind.i64.wrap ((1 : Int) + 1) = 2 := by decide
  have n1 : ¬ ((a.length : Int) < 0) := by omega
  have n2 : ¬ (((a.length + b.length : Nat) : Int) < 0) := by omega
  have l2 : (([a, b] : List (List ae)).length : Int) = 2 := rfl
  have g0 : List.getD [a, b] (Int.toNat 0) ([] : List ae) = a := rfl
  have g1 : List.getD [a, b] (Int.toNat 1) ([] : List ae) = b := rfl
  have d02 : decide ((0 : Int) < 2) = true := by decide
  have d12 : decide ((1 : Int) < 2) = true := by decide
  have d22 : decide ((2 : Int) < 2) = false := by decide
  have d00 : decide ((0 : Int) <= 0) = true := by decide
  have d01 : decide ((0 : Int) <= 1) = true := by decide
  have s0 : aL ([a, b], (0 : Int), [a, b], (2 : Int), (0 : Int), ()) = some (.inl ([a, b], (a.length : Int), [a, b], (2 : Int), (1 : Int), ())) := by
    unfold aL
    simp only [l2, g0, d02, d00, cond_true, cond_false, Bool.and_self, w1, w3, aF n1]
  have s1 : aL ([a, b], (a.length : Int), [a, b], (2 : Int), (1 : Int), ()) = some (.inl ([a, b], ((a.length + b.length : Nat) : Int), [a, b], (2 : Int), (2 : Int), ())) := by
    unfold aL
    simp only [l2, g1, d12, d01, cond_true, cond_false, Bool.and_self, w2, w4, aF n2]
  have s2 : aL ([a, b], ((a.length + b.length : Nat) : Int), [a, b], (2 : Int), (2 : Int), ()) = some (.inr (.inl ([a, b], ((a.length + b.length : Nat) : Int), ()))) := by
    unfold aL
    simp only [d22, cond_false]
  have h1 : aR aL ([a, b], (0 : Int), [a, b], (2 : Int), (0 : Int), ()) = some (.inl ([a, b], ((a.length + b.length : Nat) : Int), ())) := ia (n := 3) (by rw [gv]; omega) (by simp only [eC, s0, s1, s2])
  have r1 : (([] : List ae).length + a.length) * 112 <= ai := by rw [aE]; simp; omega
  have r2 : (([] ++ a : List ae).length + b.length) * 112 <= ai := by rw [aE]; simp; omega
  have u0 : aM ([a, b], (2 : Int), (0 : Int), ([] : List ae), ()) = some (.inl ([a, b], (2 : Int), (1 : Int), [] ++ a, ())) := by
    unfold aM
    simp only [l2, g0, d02, d00, cond_true, Bool.and_self, w3, r1, av]
  have u1 : aM ([a, b], (2 : Int), (1 : Int), [] ++ a, ()) = some (.inl ([a, b], (2 : Int), (2 : Int), [] ++ a ++ b, ())) := by
    unfold aM
    simp only [l2, g1, d12, d01, cond_true, Bool.and_self, w4, r2, av]
  have u2 : aM ([a, b], (2 : Int), (2 : Int), [] ++ a ++ b, ()) = some (.inr (.inl ([] ++ a ++ b, ()))) := by
    unfold aM
    simp only [d22, cond_false]
  have h2 : aR aM ([a, b], (2 : Int), (0 : Int), ([] : List ae), ()) = some (.inl ([] ++ a ++ b, ())) := ia (n := 3) (by rw [gv]; omega) (by simp only [eC, u0, u1, u2])
  unfold cI dy dz
  simp only [l2, h1, amE _ h, h2, List.nil_append]
def cnt : List (List (List UInt8)) -> ac -> ae -> Nat
  | [], _, _ => 0
  | P :: pv, s, m => ((partsOf s (mineOf P s)).map fun q => if tm q m = true then 1 + cnt pv q m else 0).sum
def iV (pv : List (List (List UInt8))) (s : ac) (l : List ae) : Nat := (l.map (cnt pv s)).sum
theorem am2 (pv : List (List (List UInt8))) (s : ac) (a b : List ae) : iV pv s (a ++ b) = iV pv s a + iV pv s b := by simp [iV]
def prt (pv : List (List (List UInt8))) (l : List ae) (q : ac) : Nat := (l.filter (tm q)).length + iV pv q (l.filter (tm q))
theorem anh (pv : List (List (List UInt8))) (m : ae) (l : List ae) (q : ac) : prt pv (m :: l) q = (if tm q m = true then 1 + cnt pv q m else 0) + prt pv l q := by
  unfold prt iV
  by_cases h : tm q m = true
  · rw [if_pos h, List.filter_cons_of_pos h]
    simp
    omega
  · rw [if_neg h, List.filter_cons_of_neg h]
    simp
theorem alx (P : List (List UInt8)) (pv : List (List (List UInt8))) (s : ac) : ∀ l : List ae, ((partsOf s (mineOf P s)).map (prt pv l)).sum = iV (P :: pv) s l
  | [] => by
    have : prt pv [] = fun _ => 0 := by funext q; rfl
    have key0 : ∀ ps : List ac, (ps.map fun _ => 0).sum = 0 := by
      intro ps
      induction ps with
      | nil => rfl
      | cons p ps ih => simp only [List.map_cons, List.sum_cons, ih]
    rw [this, key0]
    rfl
  | m :: l => by
    have h : prt pv (m :: l) = fun q => (if tm q m = true then 1 + cnt pv q m else 0) + prt pv l q := by funext q; exact anh pv m l q
    have key : ∀ (ps : List ac) (f g : ac -> Nat), (ps.map fun q => f q + g q).sum = (ps.map f).sum + (ps.map g).sum := by
      intro ps f g
      induction ps with
      | nil => rfl
      | cons p ps ih => simp only [List.map_cons, List.sum_cons, ih]; omega
    rw [h, key, alx P pv s l]
    show cnt (P :: pv) s m + _ = ((m :: l).map (cnt (P :: pv) s)).sum
    simp [iV]
def alz (p : au) (ns : List api_Node) (b : Nat) : Prop := ∀ i n, i < b -> ns[i]? = some n -> eV (p, (i : Int), ()) = some (n, 0, ())
theorem ahK (ns : List api_Node) (r : Nat -> Int) : alz (mk ns r, ()) ns ns.length := by
  intro i n hi h
  have e1 := nV (ns := ns) (r := r) hi
  have e2 : ns[i]'hi = n := (List.getElem?_eq_some_iff.1 h).2
  rw [e2] at e1
  exact e1
abbrev apc : Type := ((Int) × (ac) × (List (ae)) × (am) × (Int) × Unit) -> Option ((Int) × (am) × (Int) × Unit)
theorem aga (r : apc) (T : am) (P : List (List UInt8)) (pv : List (List (List UInt8))) (s : ac) (id : Int) (ks : List Nat) (sums : List api_Sum) (buf above : List ae) (w : Nat -> Nat) (acc B : Nat)
    (hget : eV (T.1, id, ()) = some (([], mineOf P s, kidsI ks, sums, buf, ()), 0, ())) (hk : ks.length = (mineOf P s).length + 1) (hm : (mineOf P s).length <= 5)
    (hsp : span_Parts (s, mineOf P s, ()) = some (partsOf s (mineOf P s), ()))
    (hab : ∀ m ∈ above, MadeM m) (hbuf : ∀ m ∈ buf, MadeM m) (hal : above.length <= 1000) (hbl : buf.length <= 1000)
    (hB : acc + iV (P :: pv) s (above ++ buf) + ((List.range ks.length).map w).sum <= B) (hB2 : B <= 1000000000)
    (hr : ∀ j, j < ks.length -> ∀ (l : List ae) (a : Nat), (∀ m ∈ l, MadeM m) -> l.length <= above.length + buf.length -> a + w j + iV pv (List.getD (partsOf s (mineOf P s)) j sp0) l <= B -> r (((ks.getD j 0 : Nat) : Int), List.getD (partsOf s (mineOf P s)) j sp0, l, T, (a : Int), ()) = some (0, T, ((a + w j + iV pv (List.getD (partsOf s (mineOf P s)) j sp0) l : Nat) : Int), ())) :
    bI r (id, s, above, T, (acc : Int), ()) = some (0, T, ((acc + iV (P :: pv) s (above ++ buf) + ((List.range ks.length).map w).sum : Nat) : Int), ()) := by
  have e1 : (decide ((0 : Int) = (0 : Int))) = true := rfl
  have e2 := aai above buf (by omega)
  obtain ⟨all, hall⟩ : ∃ a, above ++ buf = a := ⟨_, rfl⟩
  have hallM : ∀ m ∈ all, MadeM m := fun m hm => by
    rw [<- hall] at hm
    rcases List.mem_append.1 hm with h | h
    · exact hab m h
    · exact hbuf m h
  have hallE : all.length = above.length + buf.length := by rw [<- hall, List.length_append]
  have hallL : all.length <= 2000 := by omega
  have e3 := aib (n := ([], mineOf P s, kidsI ks, sums, buf, ())) (s := s) (ali (by omega)) hsp
  have hpl := (qG s (mineOf P s) (by omega)).2
  have hsum := alx P pv s all
  obtain ⟨parts, hparts⟩ : ∃ p, partsOf s (mineOf P s) = p := ⟨_, rfl⟩
  rw [hparts] at e3 hpl hr hsum
  rw [hall] at e2 hB ⊢
  obtain ⟨N, hN⟩ : ∃ N : api_Node, ([], mineOf P s, kidsI ks, sums, buf, ()) = N := ⟨_, rfl⟩
  have hNk : N.2.2.1 = kidsI ks := by rw [<- hN]
  have hNb : N.2.2.2.2.1 = buf := by rw [<- hN]
  rw [hN] at hget e3
  -- what the apa has come to before part j
  let F : Nat -> Nat := fun j => acc + ((parts.take j).map (prt pv all)).sum + ((List.range j).map w).sum
  have hF0 : F 0 = acc := by simp [F]
  have hFs : ∀ j (hj : j < parts.length), F (j + 1) = F j + prt pv all parts[j] + w j := fun j hj => by
    simp only [F]
    rw [bq hj, List.map_append, List.sum_append, List.range_succ, List.map_append, List.sum_append]
    simp
    omega
  have hFn : F parts.length = acc + iV (P :: pv) s all + ((List.range ks.length).map w).sum := by
    simp only [F]
    rw [List.take_length, hsum, hpl, hk]
  have hmono : ∀ j, j <= parts.length -> F j <= F parts.length := by
    have step : ∀ d j, j + d = parts.length -> F j <= F parts.length := by
      intro d
      induction d with
      | zero => intro j h; rw [show j = parts.length by omega]; exact Nat.le_refl _
      | succ d ih => intro j h; have h1 := ih (j + 1) (by omega); rw [hFs j (by omega)] at h1; omega
    exact fun j hj => step (parts.length - j) j (by omega)
  have room : (decide ((List.length ([] : List (ae)) + List.length all) * 112 <= ai)) = true := av (by rw [aE]; simp; omega)
  obtain ⟨z, g1, rfl⟩ := aU (b := fA r) (fun j (_ : Unit) => ((parts.length : Int), (j : Int), T, ((F j : Nat) : Int), N, all, parts, ())) parts.length (fun _ _ => True) (fun z => z = .inr (T, ((F parts.length : Nat) : Int), ())) (by omega)
    (fun j hj _ _ => by
      left
      have hjk : j < ks.length := by omega
      have hFj := hFs j hj
      have hm2 := hmono (j + 1) (by omega)
      have hfl : (all.filter (tm parts[j])).length <= all.length := List.length_filter_le _ _
      have hp : prt pv all parts[j] = (all.filter (tm parts[j])).length + iV pv parts[j] (all.filter (tm parts[j])) := rfl
      have e1 := dlt (i := j) (l := parts) (by omega)
      have e2 := dzz j
      have e4 : (decide (((j : Nat) : Int) < ((List.length (kidsI ks) : Nat) : Int))) = true := av (by rw [bi]; omega)
      have e5 := wr1 j (by omega)
      have e6 : IntKind.i64.wrap (((F j : Nat) : Int) + ((all.filter (tm parts[j])).length : Int)) = ((F j + (all.filter (tm parts[j])).length : Nat) : Int) := by rw [dK (by omega)]; omega
      have h := hr j hjk (all.filter (tm parts[j])) (F j + (all.filter (tm parts[j])).length) (fun m hm => hallM m (List.mem_filter.1 hm).1) (by omega) (by rw [aK hj]; omega)
      rw [aK hj, aK hjk] at h
      have hd := anM all parts[j] (by omega) hallM
      refine ⟨(), trivial, ?_⟩
      have e7 : F j + (all.filter (tm parts[j])).length + w j + iV pv parts[j] (all.filter (tm parts[j])) = F (j + 1) := by omega
      rw [e7] at h
      simp only [fA, e1, e2, e4, cond_true, Bool.and_self, Int.toNat_natCast, aK hj, eL, room, hd, e6, hNk, iD hjk, h, decide_true, Bool.not_true, cond_false, e5])
    (fun _ _ => by
      have e1 := dnl parts
      exact ⟨_, rfl, by simp only [fA, e1, cond_false]⟩) () trivial
  have g1' : fB r ((parts.length : Int), 0, T, (acc : Int), N, all, parts, ()) = some (.inr (T, ((F parts.length : Nat) : Int), ())) := by
    rw [<- hF0]
    exact g1
  rw [hFn] at g1'
  simp only [bI, hget, decide_true, Bool.not_true, cond_false, hNb, e2, e3, g1']
def aaf : Nat -> Nat
  | 0 => 0
  | d + 1 => 6 * (1 + aaf d)
def aci : Nat -> Nat
  | 0 => 0
  | d + 1 => 5 * aaf (d + 1) + 6 * aci d
theorem ld {α : Type} (f : α -> Nat) (c : Nat) : ∀ l : List α, (∀ x ∈ l, f x <= c) -> (l.map f).sum <= l.length * c
  | [], _ => by simp
  | x :: l, h => by
    have h1 := h x List.mem_cons_self
    have h2 := ld f c l (fun y hy => h y (List.mem_cons_of_mem _ hy))
    simp only [List.map_cons, List.sum_cons, List.length_cons, Nat.add_mul]
    omega
theorem am3 (m : ae) : ∀ (pv : List (List (List UInt8))) (s : ac), (∀ q ∈ pv, q.length <= 5) -> cnt pv s m <= aaf pv.length
  | [], _, _ => Nat.le_refl _
  | P :: pv, s, hq => by
    have hP := hq P List.mem_cons_self
    have hml := qq P s
    have hpl := (qG s (mineOf P s) (by omega)).2
    have h1 : cnt (P :: pv) s m <= (partsOf s (mineOf P s)).length * (1 + aaf pv.length) := ld _ _ _ fun q _ => by
      have := am3 m pv q (fun q hq' => hq q (List.mem_cons_of_mem _ hq'))
      split <;> omega
    have h2 : (partsOf s (mineOf P s)).length * (1 + aaf pv.length) <= 6 * (1 + aaf pv.length) := Nat.mul_le_mul_right _ (by omega)
    exact Nat.le_trans h1 h2
theorem ahC (pv : List (List (List UInt8))) (s : ac) (hq : ∀ q ∈ pv, q.length <= 5) (l : List ae) : iV pv s l <= l.length * aaf pv.length :=
  ld _ _ _ fun m _ => am3 m pv s hq
theorem aos {ns : List api_Node} {t : List aa} : ∀ (pv : List (List (List UInt8))) (s : ac) (i : Nat), (∀ q ∈ pv, q.length <= 5) -> goodS pv s = true -> TreeS ns t pv s i ->
    ∃ w0, w0 <= aci pv.length /\ ∀ (T : am) (b : Nat), alz T.1 ns b -> i < b -> ∀ (f : Nat), pv.length + 1 <= f -> ∀ (above : List ae) (acc : Nat), (∀ m ∈ above, MadeM m) -> above.length + 10 * pv.length <= 900 -> acc + w0 + iV pv s above <= 1000000000 ->
      aV f ((i : Int), s, above, T, (acc : Int), ()) = some (0, T, ((acc + w0 + iV pv s above : Nat) : Int), ())
  | [], s, i, _, _, h => by
    refine ⟨0, Nat.le_refl _, fun T b hT hi f hf above acc hab hal hB => ?_⟩
    obtain ⟨f, rfl⟩ : ∃ g, f = g + 1 := ⟨f - 1, by have : ([] : List (List (List UInt8))).length = 0 := rfl; omega⟩
    have hget := hT i _ hi h
    have e2 := aai above [] (by simp; simp at hal; omega)
    have e3 : kR ((inS s t, [], [], [], [], ()), s, ()) = some ([], ()) := rfl
    have hc : iV [] s above = 0 := by
      have := ahC [] s (by simp) above
      simpa [aaf] using this
    have hl : fB (aV f) (((List.length ([] : List ac)) : Int), 0, T, (acc : Int), (inS s t, [], [], [], [], ()), above ++ [], [], ()) = some (.inr (T, (acc : Int), ())) := ia (n := 1) (by rw [gv]; omega) (by rfl)
    rw [hc]
    show bI (aV f) _ = _
    simp only [bI, hget, decide_true, Bool.not_true, cond_false, e2, e3, hl]
    rfl
  | P :: pv, s, i, hq, hg, ⟨ks, sums, buf, h1, h2, h3, h4, h5, h6, h7, h8⟩ => by
    have hP := hq P List.mem_cons_self
    have hml := qq P s
    have hq' : ∀ q ∈ pv, q.length <= 5 := fun q hq' => hq q (List.mem_cons_of_mem _ hq')
    obtain ⟨p1, p2⟩ := aeH hg
    have hpl := (qG s (mineOf P s) (by omega)).2
    have hkid : ∀ j, ∃ w0, j < ks.length -> w0 <= aci pv.length /\ ∀ (T : am) (b : Nat), alz T.1 ns b -> ks.getD j 0 < b -> ∀ (f : Nat), pv.length + 1 <= f -> ∀ (above : List ae) (acc : Nat), (∀ m ∈ above, MadeM m) -> above.length + 10 * pv.length <= 900 -> acc + w0 + iV pv (List.getD (partsOf s (mineOf P s)) j sp0) above <= 1000000000 ->
        aV f (((ks.getD j 0 : Nat) : Int), List.getD (partsOf s (mineOf P s)) j sp0, above, T, (acc : Int), ()) = some (0, T, ((acc + w0 + iV pv (List.getD (partsOf s (mineOf P s)) j sp0) above : Nat) : Int), ()) := by
      intro j
      by_cases hj : j < ks.length
      · have hjp : j < (partsOf s (mineOf P s)).length := by omega
        obtain ⟨c1, -⟩ := h8 j hj
        obtain ⟨w0, hw1, hw2⟩ := aos pv _ _ hq' (p2 _ (by rw [aK hjp]; exact List.getElem_mem hjp)) c1
        exact ⟨w0, fun _ => ⟨hw1, hw2⟩⟩
      · exact ⟨0, fun h => absurd h hj⟩
    obtain ⟨w, hw⟩ := Classical.axiomOfChoice hkid
    have hwl : ((List.range ks.length).map w).sum <= 6 * aci pv.length := by
      have a1 := ld w (aci pv.length) (List.range ks.length) (fun j hj => (hw j (List.mem_range.1 hj)).1)
      rw [List.length_range] at a1
      have a2 : ks.length * aci pv.length <= 6 * aci pv.length := Nat.mul_le_mul_right _ (by omega)
      omega
    have hbufM : ∀ m ∈ buf, MadeM m := fun m hm => (h7 m hm).1
    have hcb : iV (P :: pv) s buf <= 5 * aaf (pv.length + 1) := by
      have a1 := ahC (P :: pv) s hq buf
      have a2 : buf.length * aaf (P :: pv).length <= 5 * aaf (P :: pv).length := Nat.mul_le_mul_right _ h6
      exact Nat.le_trans a1 a2
    refine ⟨iV (P :: pv) s buf + ((List.range ks.length).map w).sum, by show _ <= 5 * aaf (pv.length + 1) + 6 * aci pv.length; omega, fun T b hT hi f hf above acc hab hal hB => ?_⟩
    obtain ⟨f, rfl⟩ : ∃ g, f = g + 1 := ⟨f - 1, by omega⟩
    have hlen : (P :: pv).length = pv.length + 1 := rfl
    have happ := am2 (P :: pv) s above buf
    have hkr : ∀ j, j < ks.length -> ks.getD j 0 < i := fun j hj => by rw [aK hj]; exact h5 _ (List.getElem_mem hj)
    have hv := aga (aV f) T P pv s (i : Int) ks sums buf above w acc 1000000000 (hT i _ hi h1) h2 (by omega) p1 hab hbufM (by omega) (by omega) (by omega) (Nat.le_refl _)
      (fun j hj l a hl hll hBl => (hw j hj).2 T b hT (Nat.lt_trans (hkr j hj) hi) f (by omega) l a hl (by omega) hBl)
    show bI (aV f) _ = _
    rw [hv, happ]
    have e : acc + (iV (P :: pv) s above + iV (P :: pv) s buf) + ((List.range ks.length).map w).sum = acc + (iV (P :: pv) s buf + ((List.range ks.length).map w).sum) + iV (P :: pv) s above := by omega
    rw [e]
def vL (ns : List api_Node) (n : api_Node) (root : Nat) : au := ((mk (ns ++ [n]) (fun _ => 1)).set root ip, ())
theorem alY (ns : List api_Node) (n : api_Node) (root : Nat) : (vL ns n root).1.length = ns.length + 1 := by
  show ((mk (ns ++ [n]) (fun _ => 1)).set root ip).length = _
  rw [List.length_set, dP, List.length_append]
  rfl
theorem ajw {ns : List api_Node} {n : api_Node} {root i : Nat} (hi : i < ns.length + 1) (hr : i ≠ root) : eV (vL ns n root, (i : Int), ()) = some ((ns ++ [n])[i]'(by simp; omega), 0, ()) := by
  have hl : i < ((mk (ns ++ [n]) (fun _ => 1)).set root ip).length := by rw [List.length_set, dP]; simp; omega
  have h1 : ((mk (ns ++ [n]) (fun _ => 1)).set root ip)[i] = (true, (false, ((1 : Int), ((ns ++ [n])[i]'(by simp; omega), ())))) := by
    rw [List.getElem_set_ne (Ne.symm hr), iE]
  show eV ((((mk (ns ++ [n]) (fun _ => 1)).set root ip), ()), (i : Int), ()) = _
  rw [afg hl (by rw [h1]) (by rw [h1]), h1]
theorem ak7 {ns : List api_Node} {n : api_Node} {root : Nat} (hr : root < ns.length) : alz (vL ns n root) ns root := by
  intro i m hi h
  rw [ajw (by omega) (by omega)]
  have : (ns ++ [n])[i]'(by simp; omega) = m := by
    have h2 := List.getElem?_eq_some_iff.1 h
    obtain ⟨h3, h4⟩ := h2
    rw [List.getElem_append_left h3]
    exact h4
  rw [this]
theorem ahn {ns : List api_Node} {n : api_Node} {root : Nat} (hr : root < ns.length) : eV (vL ns n root, (ns.length : Int), ()) = some (n, 0, ()) := by
  rw [ajw (by omega) (by omega)]
  simp
theorem aiC {ns : List api_Node} {n n' : api_Node} {ks : List Nat} {root : Nat} (hroot : ns[root]? = some n) (hk : n.2.2.1 = kidsI ks) (hk' : n'.2.2.1 = kidsI ks) (hr : ∀ k ∈ ks, k < ns.length) (hne : root ∉ ks) (hn : ks.Nodup) (hl : ks.length <= 1000) (hnl : ns.length <= 900) :
    qJ ((mk ns (fun _ => 1), ()), n', ()) = some ((mk (ns ++ [n']) (fun j => if j ∈ ks then 2 else 1), ()), (ns.length : Int), (0 : Int), ()) /\
      pC ((mk (ns ++ [n']) (fun j => if j ∈ ks then 2 else 1), ()), (root : Int), ()) = some (vL ns n' root, (0 : Int), ()) := by
  have hlt := (List.getElem?_eq_some_iff.1 hroot).1
  refine ⟨aod hk' hr hn hl hnl, ?_⟩
  exact anc (n := n) (by rw [List.getElem?_append_left hlt]; exact hroot) hk (fun k hk => by have := hr k hk; simp; omega) hne hn hl (by simp; omega)
theorem am1 (l : List ae) : dc (l, ()) = some (l, ()) := by
  have c1 : (decide ((0 : Int) <= (0 : Int))) = true := rfl
  have c2 : (decide (((0 : Int) : Int) <= ((List.length l) : Int))) = true := av (by omega)
  have c3 : (decide ((((List.length l) : Int) : Int) <= (List.length l : Int))) = true := av (by omega)
  simp only [dc, c1, c2, c3, Nat.le_refl, decide_true, Bool.and_self, cond_true, Int.toNat_natCast, List.take_length, List.drop_zero]
theorem akJ {ns : List api_Node} {pr : List aa} {piv : List (List UInt8)} {ks : List Nat} {sums : List api_Sum} {buf : List ae} {root : Nat} (sh : aT) {m : ae} (hroot : ns[root]? = some (pr, piv, kidsI ks, sums, buf, ())) (h0 : ks ≠ []) (hr : ∀ k ∈ ks, k < root) (hn : ks.Nodup) (hl : ks.length <= 1000) (hnl : ns.length <= 900) (hm : MadeM m) (hb : buf.length <= 1000) :
    rj (((mk ns (fun _ => 1), ()), (((root : Nat) : Int), (sh, ()))), m, ()) = some ((vL ns (pr, piv, kidsI ks, sums, buf ++ [m], ()) root, ((ns.length : Int), (sh, ()))), 0, ()) := by
  obtain ⟨hv, -⟩ := aeU hm
  have hlt := (List.getElem?_eq_some_iff.1 hroot).1
  have hg := nV (ns := ns) (r := fun _ => 1) hlt
  have hN : ns[root]'hlt = (pr, piv, kidsI ks, sums, buf, ()) := (List.getElem?_eq_some_iff.1 hroot).2
  rw [hN] at hg
  have e1 : (decide ((((List.length (kidsI ks)) : Int) : Int) = (0 : Int))) = false := aF (by rw [bi]; have := List.length_pos_iff.2 h0; omega)
  have e2 : (decide (0 < List.length ([m] : List (ae))) && decide ((List.length buf + List.length ([m] : List (ae))) * 112 <= ai)) = true := by
    rw [av (by simp), av (by rw [aE]; simp; omega)]; rfl
  obtain ⟨a1, a2⟩ := aiC (n' := (pr, piv, kidsI ks, sums, buf ++ [m], ())) hroot rfl rfl (fun k hk => Nat.lt_trans (hr k hk) hlt) (fun h => Nat.lt_irrefl _ (hr _ h)) hn hl hnl
  simp only [rj, hv, Bool.not_true, cond_false, hg, decide_true, adZ, e1, am1, e2, cond_true, a1, a2]
theorem amp {ns : List api_Node} {t : List aa} {root : Nat} (sh : aT) {m : ae} (hroot : ns[root]? = some (t, [], [], [], [], ())) (hnl : ns.length <= 900) (hm : MadeM m) (ht : TabOK t) (hk : ∀ p ∈ t, p.1.length < 1000) :
    rj (((mk ns (fun _ => 1), ()), (((root : Nat) : Int), (sh, ()))), m, ()) = some ((vL ns (apM t m, [], [], [], [], ()) root, ((ns.length : Int), (sh, ()))), 0, ()) := by
  obtain ⟨hv, -⟩ := aeU hm
  have hlt := (List.getElem?_eq_some_iff.1 hroot).1
  have hg := nV (ns := ns) (r := fun _ => 1) hlt
  have hN : ns[root]'hlt = (t, [], [], [], [], ()) := (List.getElem?_eq_some_iff.1 hroot).2
  rw [hN] at hg
  have e1 : (decide ((((List.length ([] : List Int)) : Int) : Int) = (0 : Int))) = true := rfl
  have ha := (amw t m hm.ok ht.srt (by have := ht.len; omega) hk).1
  obtain ⟨a1, a2⟩ := aiC (n' := (apM t m, [], [], [], [], ())) (ks := []) hroot rfl rfl (by simp) (by simp) List.nodup_nil (by simp) hnl
  simp only [rj, hv, Bool.not_true, cond_false, hg, decide_true, adZ, e1, ha, cond_true, a1, a2]
theorem an5 (W : List ac) (p : ac) (k : Nat) (hk : k < W.length) (hl : W.length <= 1000) : qW (W, [p], (k : Int), 0, ()) = some (bif tch W[k] p then .inl (true, ()) else .inr (W, [p], (k : Int), ())) := by
  have e1 : (decide ((0 : Int) < ((List.length ([p] : List ac)) : Int))) = true := rfl
  have e2 := dzz k
  have e3 : (decide ((k : Int) < (List.length W : Int))) = true := av (by omega)
  have e4 : (decide ((0 : Int) <= (0 : Int))) = true := rfl
  have e5 : (decide ((1 : Int) < ((List.length ([p] : List ac)) : Int))) = false := rfl
  have g1 : List.getD ([p] : List ac) (Int.toNat 0) (([] : List UInt8), (([] : List UInt8), ())) = p := rfl
  have w : IntKind.i64.wrap ((0 : Int) + 1) = 1 := rfl
  have b1 : ii (W, [p], (k : Int), 0, ()) = some (bif tch W[k] p then .inr (.inl (true, ())) else .inl (W, [p], (k : Int), 1, ())) := by
    simp only [ii, e1, e2, e3, e4, cond_true, Bool.and_self, Int.toNat_natCast, aK hk, g1, alR, ae9, aeW, Bool.not_not, w]
    cases tch W[k] p <;> rfl
  have b2 : ii (W, [p], (k : Int), 1, ()) = some (.inr (.inr (W, [p], (k : Int), ()))) := by simp only [ii, e5, cond_false]
  cases h : tch W[k] p
  · rw [h] at b1
    exact ia (n := 2) (by rw [gv]; omega) (by simp only [eC, b1, b2, cond_false])
  · rw [h] at b1
    exact ia (n := 1) (by rw [gv]; omega) (by simp only [eC, b1, cond_true])
theorem aoO (W : List ac) (p : ac) (hl : W.length <= 1000) : rS (W, [p], ()) = some (W.any fun w => tch w p, ()) := by
  obtain ⟨z, h1, h2⟩ := aU (b := ig) (fun i (_ : Unit) => (W, [p], (i : Int), ())) W.length (fun i _ => (W.take i).any (fun w => tch w p) = false) (fun z => (z = .inl (true, ()) /\ W.any (fun w => tch w p) = true) \/ (z = .inr () /\ W.any (fun w => tch w p) = false)) (by omega)
    (fun i hi _ hq => by
      have e1 := dlt (i := i) (l := W) (by omega)
      have e3 := wr1 i (by omega)
      have hb := an5 W p i hi hl
      cases h : tch W[i] p
      · rw [h] at hb
        refine .inl ⟨(), ?_, by simp only [ig, e1, cond_true, hb, cond_false, e3]⟩
        rw [bq hi, List.any_append, hq]
        simp [h]
      · rw [h] at hb
        exact .inr ⟨_, .inl ⟨rfl, List.any_eq_true.2 ⟨_, List.getElem_mem hi, h⟩⟩, by simp only [ig, e1, cond_true, hb]⟩)
    (fun _ hq => by
      have e1 := dnl W
      rw [List.take_length] at hq
      exact ⟨_, .inr ⟨rfl, hq⟩, by simp only [ig, e1, cond_false]⟩) () rfl
  have h1' : qV (W, [p], 0, ()) = some z := h1
  rcases h2 with ⟨rfl, h3⟩ | ⟨rfl, h3⟩ <;> simp only [rS, h1', h3]
def rch : List (List (List UInt8)) -> ac -> ae -> Nat
  | [], _, _ => 0
  | P :: pv, s, m => ((partsOf s (mineOf P s)).map fun q => (if tm q m = true then 1 else 0) + rch pv q m).sum
abbrev RQ : Type := Nat × ac × List (List (List UInt8))
def tmN (m : ae) (l : List ac) : Nat := (l.map fun q => if tm q m = true then 1 else 0).sum
theorem aoN (m : ae) (l : List ac) : tmN m l <= l.length := by
  have := ld (fun q => if tm q m = true then 1 else 0) 1 l (fun q _ => by split <;> omega)
  unfold tmN
  omega
theorem an4 (m : ae) (l : List ac) (q : ac) : tmN m (l ++ [q]) = tmN m l + (if tm q m = true then 1 else 0) := by
  simp [tmN]
theorem ajy (T : am) (m : ae) (hm : MadeM m) (n : Nat) (ids : List Int) (spans : List ac) (N : api_Node) (ks : List Nat) (parts : List ac) (hN : N.2.2.1 = kidsI ks) (hp : parts.length = ks.length) (hk : ks.length <= 1000) (hn : n <= 1000000) (h1 : ids.length <= 1000000) (h2 : spans.length <= 1000000) :
    nc ((n : Int), 0, T, m, ids, spans, N, parts, ()) = some (.inl (((n + tmN m parts : Nat) : Int), T, m, ids ++ kidsI ks, spans ++ parts, ())) := by
  obtain ⟨hw1, hw2, hw3⟩ := anE hm
  obtain ⟨z, g1, rfl⟩ := aU (b := hS) (fun i (_ : Unit) => (((n + tmN m (parts.take i) : Nat) : Int), (i : Int), T, m, ids ++ (kidsI ks).take i, spans ++ parts.take i, N, parts, ())) ks.length (fun _ _ => True) (fun z => z = .inl (((n + tmN m parts : Nat) : Int), T, m, ids ++ kidsI ks, spans ++ parts, ())) (by omega)
    (fun i hi _ _ => by
      left
      have hip : i < parts.length := by omega
      have e1 : (decide (((i : Nat) : Int) < ((List.length (kidsI ks)) : Int))) = true := av (by rw [bi]; omega)
      have e2 := dzz i
      have e3 := wr1 i (by omega)
      have e4 : (decide (((i : Nat) : Int) <= ((i + 1 : Nat) : Int))) = true := av (by omega)
      have e5 : (decide (((i + 1 : Nat) : Int) <= (List.length parts : Int))) = true := av (by omega)
      have e6 : List.drop i (List.take (i + 1) parts) = [parts[i]] := by
        rw [bq hip, List.drop_left' (by rw [List.length_take]; omega)]
      have e7 : (decide (((i : Nat) : Int) < (List.length parts : Int))) = true := av (by omega)
      have hil : (ids ++ (kidsI ks).take i).length <= 1001000 := by rw [List.length_append, List.length_take, bi]; omega
      have hsl : (spans ++ parts.take i).length <= 1001000 := by rw [List.length_append, List.length_take]; omega
      have e8 : ∀ x : Int, (decide ((List.length (ids ++ (kidsI ks).take i) + List.length ([x] : List (Int))) * 8 <= ai)) = true := fun x => av (by rw [aE, List.length_singleton]; omega)
      have e9 : ∀ x : ac, (decide ((List.length (spans ++ parts.take i) + List.length ([x] : List (ac))) * 32 <= ai)) = true := fun x => av (by rw [aE, List.length_singleton]; omega)
      have ht := aoO (adR m) parts[i] (by omega)
      have hki : i < (kidsI ks).length := by rw [bi]; omega
      have e10 : (kidsI ks).take (i + 1) = (kidsI ks).take i ++ [((ks[i] : Nat) : Int)] := by
        rw [bq hki]
        congr 2
        simp [kidsI]
      have e11 : IntKind.i64.wrap (((n + tmN m (parts.take i) : Nat) : Int) + 1) = ((n + tmN m (parts.take i) + 1 : Nat) : Int) := by
        have := aoN m (parts.take i)
        rw [List.length_take] at this
        rw [dK (by omega)]; omega
      have e12 : tm parts[i] m = (adR m).any fun w => tch w parts[i] := rfl
      refine ⟨(), trivial, ?_⟩
      simp only [hS, hN, e1, cond_true, hw2, e3, e2, e4, e5, Bool.and_self, Int.toNat_natCast, e6, ht]
      rw [<- e12]
      rw [bq hip, an4, e10]
      cases h : tm parts[i] m
      · simp only [cond_false, gS, hN, e2, e1, e7, cond_true, Bool.and_self, Int.toNat_natCast, iD hi, aK hip, e8, e9, e3, List.append_assoc]
        rfl
      · simp only [cond_true, gS, hN, e2, e1, e7, Bool.and_self, Int.toNat_natCast, iD hi, aK hip, e8, e9, e3, e11, List.append_assoc]
        rfl)
    (fun _ _ => by
      have e1 : (decide (((ks.length : Nat) : Int) < ((List.length (kidsI ks)) : Int))) = false := aF (by rw [bi]; omega)
      refine ⟨_, rfl, ?_⟩
      simp only [hS, hN, e1, cond_false]
      rw [List.take_of_length_le (show (kidsI ks).length <= ks.length by rw [bi]; exact Nat.le_refl _), List.take_of_length_le (by omega)]) () trivial
  have g1' := g1
  simp only [List.take_zero, List.append_nil] at g1'
  exact g1'
def qOK (ns : List api_Node) (t : List aa) (q : RQ) : Prop := TreeS ns t q.2.2 q.2.1 q.1 /\ ∀ P ∈ q.2.2, P.length <= 5
def qSz (Q : List RQ) : Nat := (Q.map fun q => sz q.2.2 q.2.1).sum
def xi (m : ae) (Q : List RQ) : Nat := (Q.map fun q => rch q.2.2 q.2.1 m).sum
def qSt (T : am) (m : ae) (n : Nat) (Q : List RQ) : (Int) × (am) × (ae) × (List (Int)) × (List (ac)) × Unit := ((n : Int), T, m, Q.map (fun q => ((q.1 : Nat) : Int)), Q.map (fun q => q.2.1), ())
theorem aoM (pv : List (List (List UInt8))) (s : ac) : 1 <= sz pv s := by
  cases pv with
  | nil => exact Nat.le_refl _
  | cons P pv => show 1 <= 1 + _; omega
theorem akA (m : ae) : ∀ (pv : List (List (List UInt8))) (s : ac), rch pv s m + 1 <= sz pv s
  | [], s => Nat.le_refl _
  | P :: pv, s => by
    show (List.map _ _).sum + 1 <= 1 + (List.map _ _).sum
    have key : ∀ l : List ac, (l.map fun q => (if tm q m = true then 1 else 0) + rch pv q m).sum <= (l.map (sz pv)).sum := by
      intro l
      induction l with
      | nil => exact Nat.le_refl _
      | cons q l ih =>
        have := akA m pv q
        simp only [List.map_cons, List.sum_cons]
        split <;> omega
    have := key (partsOf s (mineOf P s))
    omega
theorem ajf (ks : List Nat) (parts : List ac) (pv : List (List (List UInt8))) (m : ae) (h : parts.length = ks.length) :
    ((ks.zip parts).map fun p => ((p.1, p.2, pv) : RQ)).map (fun q => ((q.1 : Nat) : Int)) = kidsI ks /\ ((ks.zip parts).map fun p => ((p.1, p.2, pv) : RQ)).map (fun q => q.2.1) = parts /\
      qSz ((ks.zip parts).map fun p => ((p.1, p.2, pv) : RQ)) = (parts.map (sz pv)).sum /\ xi m ((ks.zip parts).map fun p => ((p.1, p.2, pv) : RQ)) = (parts.map (rch pv · m)).sum := by
  have a1 : (ks.zip parts).map Prod.fst = ks := List.map_fst_zip (by omega)
  have a2 : (ks.zip parts).map Prod.snd = parts := List.map_snd_zip (by omega)
  refine ⟨?_, ?_, ?_, ?_⟩
  · rw [List.map_map]
    unfold kidsI
    conv => rhs; rw [<- a1]
    rw [List.map_map]
    rfl
  · rw [List.map_map]
    conv => rhs; rw [<- a2]
    rfl
  · unfold qSz
    rw [List.map_map]
    conv => rhs; rw [<- a2]
    rw [List.map_map]
    rfl
  · unfold xi
    rw [List.map_map]
    conv => rhs; rw [<- a2]
    rw [List.map_map]
    rfl
theorem anl (m : ae) (P : List (List UInt8)) (pv : List (List (List UInt8))) (s : ac) : rch (P :: pv) s m = tmN m (partsOf s (mineOf P s)) + ((partsOf s (mineOf P s)).map (rch pv · m)).sum := by
  show (List.map _ _).sum = _
  unfold tmN
  generalize partsOf s (mineOf P s) = l
  induction l with
  | nil => rfl
  | cons q l ih =>
    simp only [List.map_cons, List.sum_cons] at ih ⊢
    omega
theorem akB {ns : List api_Node} {t : List aa} (T : am) (hT : T.1 = (mk ns (fun _ => 1), ())) (m : ae) (hm : MadeM m) (n : Nat) (q : RQ) (Q : List RQ) (hq : qOK ns t q) (hQ : ∀ x ∈ Q, qOK ns t x) (hl : Q.length <= 100000) (hn : n <= 1000000) :
    ∃ K n', bO (qSt T m n (q :: Q)) = some (.inl (qSt T m n' (Q ++ K))) /\ (∀ x ∈ K, qOK ns t x) /\ qSz K + 1 = sz q.2.2 q.2.1 /\ n' + xi m K = n + rch q.2.2 q.2.1 m /\ K.length <= 6 /\ n <= n' := by
  obtain ⟨i, s, pv⟩ := q
  obtain ⟨h1, h2⟩ := hq
  have hlt : i < ns.length := h1.lt
  have e1 : (decide ((((List.length (((i : Nat) : Int) :: Q.map (fun q => ((q.1 : Nat) : Int)))) : Int) : Int) > (0 : Int))) = true := av (by simp)
  have e2 : (decide (((0 : Int) : Int) < (List.length (((i : Nat) : Int) :: Q.map (fun q => ((q.1 : Nat) : Int))) : Int))) = true := av (by simp)
  have e3 : (decide (((0 : Int) : Int) < (List.length (s :: Q.map (fun q => q.2.1)) : Int))) = true := av (by simp)
  have g := aeX (r := fun _ => 1) hlt
  have gd1 : List.getD (((i : Nat) : Int) :: Q.map (fun q => ((q.1 : Nat) : Int))) 0 0 = (i : Int) := rfl
  have gd2 : List.getD (s :: Q.map (fun q => q.2.1)) 0 (([] : List UInt8), (([] : List UInt8), ())) = s := rfl
  have drp : ∀ {α : Type} (a : α) (l r : List α), List.drop (Int.toNat (1 : Int)) (List.take (Int.toNat ((List.length (a :: l ++ r) : Nat) : Int)) (a :: l ++ r)) = l ++ r := fun a l r => by
    rw [Int.toNat_natCast, List.take_length]
    rfl
  have len1 : ∀ {α : Type} (a : α) (l r : List α), (decide (((1 : Int) : Int) <= (List.length (a :: l ++ r) : Int))) = true := fun a l r => av (by simp; omega)
  have len2 : ∀ {α : Type} (l : List α), (decide (((List.length l : Int) : Int) <= (List.length l : Int))) = true := fun l => av (Int.le_refl _)
  cases pv with
  | nil =>
    have hN : ns[i] = (inS s t, [], [], [], [], ()) := (List.getElem?_eq_some_iff.1 h1).2
    rw [hN] at g
    have sp : gD ((inS s t, [], [], [], [], ()), s, ()) = some ([], ()) := rfl
    have l1 := ajy T m hm n (((i : Nat) : Int) :: Q.map (fun q => ((q.1 : Nat) : Int))) (s :: Q.map (fun q => q.2.1)) (inS s t, [], [], [], [], ()) [] [] rfl rfl (by simp) (by omega) (by simp; omega) (by simp; omega)
    refine ⟨[], n, ?_, by simp, rfl, by simp [xi, rch], by simp, Nat.le_refl _⟩
    show bO ((n : Int), T, m, ((i : Nat) : Int) :: Q.map (fun q => ((q.1 : Nat) : Int)), s :: Q.map (fun q => q.2.1), ()) = _
    simp only [bO, e1, e2, e3, cond_true, hT, gd1, gd2, g, sp, l1, len1, len2, Bool.and_self, drp]
    simp [qSt, kidsI, tmN]
  | cons P pv =>
    have h1 : TreeS ns t (P :: pv) s i := h1
    obtain ⟨ks, sums, buf, h3, h4, h5, h6, h7, h8, h9, h10⟩ := h1
    have hN : ns[i] = ([], mineOf P s, kidsI ks, sums, buf, ()) := (List.getElem?_eq_some_iff.1 h3).2
    rw [hN] at g
    have h2 : ∀ X ∈ P :: pv, X.length <= 5 := h2
    have hP := h2 P List.mem_cons_self
    have hml := qq P s
    have hpl := (qG s (mineOf P s) (by omega)).2
    have sp := ant ([], mineOf P s, kidsI ks, sums, buf, ()) s (ali (by omega)) (by show (mineOf P s).length <= 100000; omega)
    have sp : gD (([], mineOf P s, kidsI ks, sums, buf, ()), s, ()) = some (partsOf s (mineOf P s), ()) := sp
    have hr := anl m P pv s
    have hs : sz (P :: pv) s = 1 + ((partsOf s (mineOf P s)).map (sz pv)).sum := rfl
    obtain ⟨parts, hparts⟩ : ∃ p, partsOf s (mineOf P s) = p := ⟨_, rfl⟩
    rw [hparts] at sp hpl hr hs h10
    obtain ⟨f1, f2, f3, f4⟩ := ajf ks parts pv m (by omega)
    have l1 := ajy T m hm n (((i : Nat) : Int) :: Q.map (fun q => ((q.1 : Nat) : Int))) (s :: Q.map (fun q => q.2.1)) ([], mineOf P s, kidsI ks, sums, buf, ()) ks parts rfl (by omega) (by omega) (by omega) (by simp; omega) (by simp; omega)
    refine ⟨(ks.zip parts).map fun p => ((p.1, p.2, pv) : RQ), n + tmN m parts, ?_, ?_, by rw [f3]; show _ = sz (P :: pv) s; omega, by rw [f4]; show _ = n + rch (P :: pv) s m; omega, by simp; omega, by omega⟩
    · show bO ((n : Int), T, m, ((i : Nat) : Int) :: Q.map (fun q => ((q.1 : Nat) : Int)), s :: Q.map (fun q => q.2.1), ()) = _
      simp only [bO, e1, e2, e3, cond_true, hT, gd1, gd2, g, sp, l1, len1, len2, Bool.and_self, drp]
      unfold qSt
      rw [List.map_append, List.map_append, f1, f2]
    · intro x hx
      obtain ⟨p, hp, rfl⟩ := List.mem_map.1 hx
      obtain ⟨j, hj, rfl⟩ := List.mem_iff_getElem.1 hp
      rw [List.length_zip] at hj
      have := (h10 j (by omega)).1
      rw [aK (show j < ks.length by omega), aK (show j < parts.length by omega)] at this
      rw [List.getElem_zip]
      exact ⟨this, fun X hX => h2 X (List.mem_cons_of_mem _ hX)⟩
theorem afl {ns : List api_Node} {t : List aa} (T : am) (hT : T.1 = (mk ns (fun _ => 1), ())) (m : ae) (hm : MadeM m) : ∀ (N : Nat) (Q : List RQ) (n : Nat), qSz Q <= N -> (∀ x ∈ Q, qOK ns t x) -> Q.length + 6 * N <= 100000 -> n + xi m Q <= 100000 ->
    eC bO (N + 1) (qSt T m n Q) = some (.inl (((n + xi m Q : Nat) : Int), ()))
  | N, [], n, _, _, _, _ => by
    have e1 : (decide ((((List.length ([] : List Int)) : Int) : Int) > (0 : Int))) = false := rfl
    have b : bO (qSt T m n []) = some (.inr (.inl ((n : Int), ()))) := by
      show bO ((n : Int), T, m, [], [], ()) = _
      simp only [bO, e1, cond_false]
    simp only [eC, b]
    rfl
  | 0, q :: Q, n, h, _, _, _ => by
    have := aoM q.2.2 q.2.1
    have h : sz q.2.2 q.2.1 + qSz Q <= 0 := by simpa [qSz] using h
    omega
  | N + 1, q :: Q, n, h, hQ, hl, hn => by
    have h : sz q.2.2 q.2.1 + qSz Q <= N + 1 := by simpa [qSz] using h
    have hr : xi m (q :: Q) = rch q.2.2 q.2.1 m + xi m Q := by simp [xi]
    simp only [List.length_cons] at hl
    obtain ⟨K, n', b, k1, k2, k3, k4, k5⟩ := akB T hT m hm n q Q (hQ q List.mem_cons_self) (fun x hx => hQ x (List.mem_cons_of_mem _ hx)) (by omega) (by omega)
    have hrk : xi m (Q ++ K) = xi m Q + xi m K := by simp [xi]
    have ih := afl T hT m hm N (Q ++ K) n' (by
      have : qSz (Q ++ K) = qSz Q + qSz K := by simp [qSz]
      omega) (fun x hx => (List.mem_append.1 hx).elim (fun h => hQ x (List.mem_cons_of_mem _ h)) (k1 x)) (by rw [List.length_append]; omega) (by omega)
    rw [show n + xi m (q :: Q) = n' + xi m (Q ++ K) by omega]
    rw [eC, b]
    exact ih
theorem akC {ns : List api_Node} {t : List aa} (sh : aT) (pv : List (List (List UInt8))) (root : Nat) (m : ae) (hm : MadeM m) (h : TreeS ns t pv sp0 root) (hq : ∀ P ∈ pv, P.length <= 5) (hs : sz pv sp0 <= 1000) :
    nG (((mk ns (fun _ => 1), ()), (((root : Nat) : Int), (sh, ()))), m, ()) = some ((rch pv sp0 m : Int), ()) := by
  have hr := akA m pv sp0
  have hz : qSz [((root, sp0, pv) : RQ)] = sz pv sp0 := by simp [qSz]
  have hc : xi m [((root, sp0, pv) : RQ)] = rch pv sp0 m := by simp [xi]
  have it := afl (ns := ns) (t := t) ((mk ns (fun _ => 1), ()), (((root : Nat) : Int), (sh, ()))) rfl m hm 1000 [(root, sp0, pv)] 0 (by omega) (fun x hx => by rw [List.mem_singleton.1 hx]; exact ⟨h, hq⟩) (by simp) (by omega)
  rw [hc, Nat.zero_add] at it
  have l : mZ ((0 : Int), ((mk ns (fun _ => 1), ()), (((root : Nat) : Int), (sh, ()))), m, [((root : Nat) : Int)], [sp0], ()) = some (.inl ((rch pv sp0 m : Int), ())) := ia (n := 1001) (by rw [gv]; omega) it
  simp only [nG, l]
def anw (q s : ac) : Bool := !(Op.bytesLess q.1 s.1) && (decide (s.2.1 = []) || (!decide (q.2.1 = []) && !(Op.bytesLess s.2.1 q.2.1)))
theorem al2 {a b c : List UInt8} (h1 : Op.bytesLess b a = false) (h2 : Op.bytesLess c b = false) : Op.bytesLess c a = false := by
  cases h : Op.bytesLess c a
  · rfl
  · rcases dC a b with h3 | h3 | h3
    · rw [bR h h3] at h2; cases h2
    · rw [<- h3, h] at h2; cases h2
    · rw [h1] at h3; cases h3
theorem anx {q s : ac} {k : List UInt8} (h : anw q s = true) (hk : er q k = true) : er s k = true := by
  unfold anw at h
  rw [Bool.and_eq_true, Bool.not_eq_true'] at h
  obtain ⟨h1, h2⟩ := h
  obtain ⟨k1, k2⟩ := kt.1 hk
  refine kt.2 ⟨al2 h1 k1, ?_⟩
  rw [Bool.or_eq_true, decide_eq_true_eq, Bool.and_eq_true, Bool.not_eq_true', Bool.not_eq_true', decide_eq_false_iff_not] at h2
  rcases h2 with h2 | ⟨h2, h3⟩
  · exact .inl h2
  · right
    rcases k2 with k2 | k2
    · exact absurd k2 h2
    · rcases dC q.2.1 s.2.1 with h4 | h4 | h4
      · exact bR k2 h4
      · rw [<- h4]; exact k2
      · rw [h3] at h4; cases h4
theorem aoi {q s : ac} {m : ae} (h : anw q s = true) (ht : tm q m = true) : tm s m = true := by
  obtain ⟨w, hw, h1⟩ := List.any_eq_true.1 ht
  obtain ⟨k, k1, k2⟩ := aiy.1 h1
  exact List.any_eq_true.2 ⟨w, hw, aiy.2 ⟨k, k1, anx h k2⟩⟩
def ahh : List (List (List UInt8)) -> ac -> Bool
  | [], _ => true
  | P :: pv, s => (partsOf s (mineOf P s)).all fun q => anw q s && ahh pv q
def acj : List ac -> List UInt8 -> Bool
  | [], _ => false
  | [q], lo => decide (q.1 = lo) && decide (q.2.1 = [])
  | q :: l, lo => decide (q.1 = lo) && (!decide (q.2.1 = []) && acj l q.2.1)
theorem acU : ∀ (l : List ac) (lo k : List UInt8), acj l lo = true -> Op.bytesLess k lo = false -> ∃ q ∈ l, er q k = true
  | [], lo, k, h, _ => by cases h
  | [q], lo, k, h, hk => by
    simp only [acj, Bool.and_eq_true, decide_eq_true_eq] at h
    exact ⟨q, List.mem_cons_self, kt.2 ⟨by rw [h.1]; exact hk, .inl h.2⟩⟩
  | q :: r :: l, lo, k, h, hk => by
    simp only [acj, Bool.and_eq_true, decide_eq_true_eq, Bool.not_eq_true', decide_eq_false_iff_not] at h
    obtain ⟨h1, h2, h3⟩ := h
    cases hl : Op.bytesLess k q.2.1
    · obtain ⟨x, hx, hx2⟩ := acU (r :: l) q.2.1 k h3 hl
      exact ⟨x, List.mem_cons_of_mem _ hx, hx2⟩
    · exact ⟨q, List.mem_cons_self, kt.2 ⟨by rw [h1]; exact hk, .inr hl⟩⟩
def aiY (pv : List (List (List UInt8))) : Bool := ahh pv sp0 && match pv with
  | [] => true
  | P :: _ => acj (partsOf sp0 (mineOf P sp0)) []
theorem amD : ∀ pv ∈ LV, aiY pv = true := by
  have h : LV.all aiY = true := by kernel_rfl
  exact fun pv hp => List.all_eq_true.1 h pv hp
theorem aef (m : ae) : ∀ (pv : List (List (List UInt8))) (s : ac), ahh pv s = true -> rch pv s m = cnt pv s m /\ (tm s m = false -> rch pv s m = 0)
  | [], _, _ => ⟨rfl, fun _ => rfl⟩
  | P :: pv, s, h => by
    have h' : ∀ q ∈ partsOf s (mineOf P s), anw q s = true /\ ahh pv q = true := fun q hq => by
      have := List.all_eq_true.1 h q hq
      rwa [Bool.and_eq_true] at this
    show (List.map _ _).sum = (List.map _ _).sum /\ (_ -> (List.map _ _).sum = 0)
    generalize partsOf s (mineOf P s) = l at h'
    refine ⟨?_, fun ht => ?_⟩
    · congr 1
      refine List.map_congr_left fun q hq => ?_
      obtain ⟨i1, i2⟩ := aef m pv q (h' q hq).2
      cases hqm : tm q m
      · simp [i2 hqm]
      · simp [i1]
    · have : ∀ q ∈ l, ((if tm q m = true then 1 else 0) + rch pv q m) = 0 := fun q hq => by
        have hqm : tm q m = false := by
          cases hqm : tm q m
          · rfl
          · rw [aoi (h' q hq).1 hqm] at ht; cases ht
        rw [(aef m pv q (h' q hq).2).2 hqm, hqm]
        simp
      have := ld _ 0 l (fun q hq => Nat.le_of_eq (this q hq))
      omega
theorem alw {α : Type} (f : α -> Nat) : ∀ (l : List α) (x : α), x ∈ l -> f x <= (l.map f).sum
  | [], _, h => by cases h
  | y :: l, x, h => by
    rcases List.mem_cons.1 h with rfl | h
    · simp
    · have := alw f l x h
      simp only [List.map_cons, List.sum_cons]
      omega
theorem aoR {m : ae} (hm : MadeM m) : ∃ w ∈ adR m, ∃ k, er w k = true := by
  obtain ⟨-, hw, -⟩ := anE hm
  have hok := hm.ok
  have lo_in : ∀ s : ac, spanOK s -> er s s.1 = true := fun s h => kt.2 ⟨cl _, h⟩
  have pre : ∀ f ∈ paths5, spanOK (preS f) := by
    have h : paths5.all (fun f => decide ((preS f).2.1 = []) || Op.bytesLess (preS f).1 (preS f).2.1) = true := by kernel_rfl
    intro f hf
    have := List.all_eq_true.1 h f hf
    rw [Bool.or_eq_true, decide_eq_true_eq] at this
    exact this
  obtain ⟨q, k, v, f, t, s, n, rfl, hq, hn, hs1, hs2⟩ := hm.form
  have cases6 : q = 0 \/ q = 1 \/ q = 2 \/ q = 3 \/ q = 4 \/ q = 5 := by omega
  have fin : ∀ (W : List ac) (w : ac), bj (cH q k v f t s n, ()) = some (W, ()) -> w ∈ W -> spanOK w -> ∃ w ∈ adR (cH q k v f t s n), ∃ k, er w k = true := fun W w h1 h2 h3 => by
    rw [hw] at h1
    have e : adR (cH q k v f t s n) = W := congrArg Prod.fst (Option.some.inj h1)
    rw [e]
    exact ⟨w, h2, _, lo_in w h3⟩
  rcases cases6 with rfl | rfl | rfl | rfl | rfl | rfl
  · have hkm : cH 0 k v f t s n = (1, k, v, ([], [], ()), [], [], n, ()) := rfl
    have hk : k ∈ keys20 := by rw [hkm] at hok; exact hok.key (.inl rfl)
    have h1 : Op.bytesLess k (k ++ [0]) = true := by
      have h : keys20.all (fun k => Op.bytesLess k (k ++ [0])) = true := by kernel_rfl
      exact List.all_eq_true.1 h k hk
    refine fin [(k, (k ++ [0], ()))] _ ?_ List.mem_cons_self (.inr h1)
    rw [hkm]
    simp only [bj, bt, decide_true, cond_true, (yr hk).2]
  · have hkm : cH 1 k v f t s n = (2, k, [], ([], [], ()), [], [], 0, ()) := rfl
    have hk : k ∈ keys20 := by rw [hkm] at hok; exact hok.key (.inr rfl)
    have h1 : Op.bytesLess k (k ++ [0]) = true := by
      have h : keys20.all (fun k => Op.bytesLess k (k ++ [0])) = true := by kernel_rfl
      exact List.all_eq_true.1 h k hk
    have f1 : (decide ((2 : Int) = 1)) = false := rfl
    refine fin [(k, (k ++ [0], ()))] _ ?_ List.mem_cons_self (.inr h1)
    rw [hkm]
    simp only [bj, bt, f1, decide_true, cond_true, cond_false, (yr hk).2]
  · have hkm : cH 2 k v f t s n = (3, [], [], s, [], [], 0, ()) := rfl
    have hs : spanOK s := by rw [hkm] at hok; exact hok.span (.inl rfl)
    have f1 : (decide ((3 : Int) = 1)) = false := rfl
    have f2 : (decide ((3 : Int) = 2)) = false := rfl
    have f4 : (decide ((3 : Int) = 4)) = false := rfl
    have f5 : (decide ((3 : Int) = 5)) = false := rfl
    refine fin [s] _ ?_ List.mem_cons_self hs
    rw [hkm]
    simp only [bj, bt, f1, f2, f4, f5, cond_false]
  · have hkm : cH 3 k v f t s n = (4, [], [], ([], [], ()), f, t, 0, ()) := rfl
    have hf : f ∈ paths5 := by rw [hkm] at hok; exact hok.from_ (.inl rfl)
    have ht : t ∈ paths5 := by rw [hkm] at hok; exact hok.to_ (.inl rfl)
    obtain ⟨p1, p2, -⟩ := kK f (fD f hf)
    obtain ⟨r1, r2, -⟩ := kK t (fD t ht)
    have f1 : (decide ((4 : Int) = 1)) = false := rfl
    have f2 : (decide ((4 : Int) = 2)) = false := rfl
    refine fin [preS f, preS t] _ ?_ List.mem_cons_self (pre f hf)
    rw [hkm]
    simp only [bj, bt, f1, f2, decide_true, cond_true, cond_false, p2, r2]
  · have hkm : cH 4 k v f t s n = (5, [], [], ([], [], ()), f, t, 0, ()) := rfl
    have ht : t ∈ paths5 := by rw [hkm] at hok; exact hok.to_ (.inr rfl)
    obtain ⟨r1, r2, -⟩ := kK t (fD t ht)
    have f1 : (decide ((5 : Int) = 1)) = false := rfl
    have f2 : (decide ((5 : Int) = 2)) = false := rfl
    have f4 : (decide ((5 : Int) = 4)) = false := rfl
    refine fin [preS t] _ ?_ List.mem_cons_self (pre t ht)
    rw [hkm]
    simp only [bj, bt, f1, f2, f4, decide_true, cond_true, cond_false, r2]
  · have hkm : cH 5 k v f t s n = (6, [], [], s, [], [], n, ()) := rfl
    have hs : spanOK s := by rw [hkm] at hok; exact hok.span (.inr rfl)
    have f1 : (decide ((6 : Int) = 1)) = false := rfl
    have f2 : (decide ((6 : Int) = 2)) = false := rfl
    have f4 : (decide ((6 : Int) = 4)) = false := rfl
    have f5 : (decide ((6 : Int) = 5)) = false := rfl
    refine fin [s] _ ?_ List.mem_cons_self hs
    rw [hkm]
    simp only [bj, bt, f1, f2, f4, f5, cond_false]
theorem anL {m : ae} (hm : MadeM m) (P : List (List UInt8)) (pv : List (List (List UInt8))) (h : aiY (P :: pv) = true) : 1 <= cnt (P :: pv) sp0 m := by
  obtain ⟨w, hw, k, hk⟩ := aoR hm
  unfold aiY at h
  rw [Bool.and_eq_true] at h
  have h2 : acj (partsOf sp0 (mineOf P sp0)) [] = true := h.2
  have hk0 : Op.bytesLess k [] = false := by cases k <;> rfl
  obtain ⟨q, hq, hqk⟩ := acU _ _ k h2 hk0
  have ht : tm q m = true := List.any_eq_true.2 ⟨w, hw, aiy.2 ⟨k, hk, hqk⟩⟩
  have := alw (fun q => if tm q m = true then 1 + cnt pv q m else 0) _ q hq
  simp only [ht, if_true] at this
  show 1 <= (List.map _ _).sum
  omega
theorem caps : ∀ n, n <= 2 -> aaf (n + 1) <= 300 /\ aci n <= 400
  | 0, _ => by decide
  | 1, _ => by decide
  | 2, _ => by decide
  | n + 3, h => by omega
theorem weights {ns : List api_Node} {t : List aa} {P : List (List UInt8)} {pv : List (List (List UInt8))} {root : Nat} (sh : aT) {m : ae} (hq : ∀ q ∈ P :: pv, q.length <= 5) (hl : pv.length <= 2) (hg : goodS (P :: pv) sp0 = true) (h : TreeS ns t (P :: pv) sp0 root) (hm : MadeM m) (hnl : ns.length <= 900) :
    ∃ (a : Nat) (U : am), a <= 100000 /\ eh (((mk ns (fun _ => 1), ()), (((root : Nat) : Int), (sh, ()))), ()) = some ((a : Int), 0, ()) /\
      rj (((mk ns (fun _ => 1), ()), (((root : Nat) : Int), (sh, ()))), m, ()) = some (U, 0, ()) /\ (∃ n, U.1 = vL ns n root) /\
      eh (U, ()) = some (((a + cnt (P :: pv) sp0 m : Nat) : Int), 0, ()) := by
  have hrlt := h.lt
  obtain ⟨ks, sums, buf, h1, h2, h3, h4, h5, h6, h7, h8⟩ := h
  have hP := hq P List.mem_cons_self
  have hml := qq P sp0
  have hq' : ∀ q ∈ pv, q.length <= 5 := fun q hq' => hq q (List.mem_cons_of_mem _ hq')
  obtain ⟨p1, p2⟩ := aeH hg
  have hpl := (qG sp0 (mineOf P sp0) (by omega)).2
  have hkid : ∀ j, ∃ w0, j < ks.length -> w0 <= aci pv.length /\ ∀ (T : am) (b : Nat), alz T.1 ns b -> ks.getD j 0 < b -> ∀ (f : Nat), pv.length + 1 <= f -> ∀ (above : List ae) (acc : Nat), (∀ m ∈ above, MadeM m) -> above.length + 10 * pv.length <= 900 -> acc + w0 + iV pv (List.getD (partsOf sp0 (mineOf P sp0)) j sp0) above <= 1000000000 ->
      aV f (((ks.getD j 0 : Nat) : Int), List.getD (partsOf sp0 (mineOf P sp0)) j sp0, above, T, (acc : Int), ()) = some (0, T, ((acc + w0 + iV pv (List.getD (partsOf sp0 (mineOf P sp0)) j sp0) above : Nat) : Int), ()) := by
    intro j
    by_cases hj : j < ks.length
    · have hjp : j < (partsOf sp0 (mineOf P sp0)).length := by omega
      obtain ⟨c1, -⟩ := h8 j hj
      obtain ⟨w0, hw1, hw2⟩ := aos pv _ _ hq' (p2 _ (by rw [aK hjp]; exact List.getElem_mem hjp)) c1
      exact ⟨w0, fun _ => ⟨hw1, hw2⟩⟩
    · exact ⟨0, fun h => absurd h hj⟩
  obtain ⟨w, hw⟩ := Classical.axiomOfChoice hkid
  obtain ⟨hc1, hc2⟩ := caps pv.length hl
  have hwl : ((List.range ks.length).map w).sum <= 2400 := by
    have a1 := ld w (aci pv.length) (List.range ks.length) (fun j hj => (hw j (List.mem_range.1 hj)).1)
    rw [List.length_range] at a1
    have a2 : ks.length * aci pv.length <= 6 * aci pv.length := Nat.mul_le_mul_right _ (by omega)
    omega
  have hbufM : ∀ m ∈ buf, MadeM m := fun m hm => (h7 m hm).1
  have hcl : ∀ l : List ae, l.length <= 6 -> iV (P :: pv) sp0 l <= 1800 := fun l hll => by
    have a1 := ahC (P :: pv) sp0 hq l
    have a2 : l.length * aaf (P :: pv).length <= 6 * aaf (P :: pv).length := Nat.mul_le_mul_right _ hll
    have a3 : (P :: pv).length = pv.length + 1 := rfl
    rw [a3] at a1 a2
    omega
  have hkr : ∀ j, j < ks.length -> ks.getD j 0 < root := fun j hj => by rw [aK hj]; exact h5 _ (List.getElem_mem hj)
  obtain ⟨F, hF⟩ : ∃ F, abc = F + 1 := ⟨abc - 1, by rw [gv]⟩
  have hF2 : 100 <= F := by rw [gv] at hF; omega
  -- one visit of a root
  have visit : ∀ (T : am) (id : Int) (bf : List ae), alz T.1 ns root -> (eV (T.1, id, ()) = some (([], mineOf P sp0, kidsI ks, sums, bf, ()), 0, ())) -> (∀ m ∈ bf, MadeM m) -> bf.length <= 6 -> nE (id, sp0, [], T, 0, ()) = some (0, T, ((iV (P :: pv) sp0 bf + ((List.range ks.length).map w).sum : Nat) : Int), ()) := fun T id bf hT hget hbM hbl => by
    have hcb := hcl bf hbl
    have hv := aga (aV F) T P pv sp0 id ks sums bf [] w 0 1000000000 hget h2 (by omega) p1 (by simp) hbM (by simp) (by omega) (by simp only [List.nil_append]; omega) (Nat.le_refl _)
      (fun j hj l a hl hll hBl => (hw j hj).2 T root hT (hkr j hj) F (by omega) l a hl (by simp at hll; omega) hBl)
    rw [List.nil_append, Nat.zero_add] at hv
    show aV abc _ = _
    rw [hF]
    exact hv
  have hb6 : (buf ++ [m]).length <= 6 := by simp; omega
  have hbm : ∀ x ∈ buf ++ [m], MadeM x := fun x hx => (List.mem_append.1 hx).elim (hbufM x) (fun h => by rw [List.mem_singleton.1 h]; exact hm)
  have v1 := visit ((mk ns (fun _ => 1), ()), (((root : Nat) : Int), (sh, ()))) (root : Int) buf (fun i n hi h => ahK ns _ i n (by omega) h) (ahK ns _ root _ hrlt h1) hbufM (by omega)
  have ha := akJ sh h1 (fun h => by rw [h] at h2; simp at h2) h5 h4 (by omega) hnl hm (by omega)
  have v2 := visit (vL ns ([], mineOf P sp0, kidsI ks, sums, buf ++ [m], ()) root, ((ns.length : Int), (sh, ()))) (ns.length : Int) (buf ++ [m]) (ak7 hrlt) (ahn hrlt) hbm hb6
  have e0 : (decide ((0 : Int) = (0 : Int))) = true := rfl
  have hsum : iV (P :: pv) sp0 (buf ++ [m]) = iV (P :: pv) sp0 buf + cnt (P :: pv) sp0 m := by simp [iV]
  have hcb := hcl buf (by omega)
  refine ⟨iV (P :: pv) sp0 buf + ((List.range ks.length).map w).sum, _, by omega, ?_, ha, ⟨_, rfl⟩, ?_⟩
  · simp only [eh, v1, decide_true, Bool.not_true, cond_false]
  · rw [show iV (P :: pv) sp0 buf + ((List.range ks.length).map w).sum + cnt (P :: pv) sp0 m = iV (P :: pv) sp0 (buf ++ [m]) + ((List.range ks.length).map w).sum by omega]
    simp only [eh, v2, decide_true, Bool.not_true, cond_false]
theorem ady (T : am) (n : api_Node) (hk : n.2.2.1 = []) (hb : n.2.2.2.2.1 = []) (hget : eV (T.1, T.2.1, ()) = some (n, 0, ())) : eh (T, ()) = some (0, 0, ()) := by
  obtain ⟨F, hF⟩ : ∃ F, abc = F + 1 := ⟨abc - 1, by rw [gv]⟩
  have e2 := aai [] [] (by simp)
  have e3 : kR (n, sp0, ()) = some ([], ()) := by
    have e : (decide ((((List.length n.2.2.1) : Int) : Int) = (0 : Int))) = true := by rw [hk]; rfl
    simp only [kR, e, cond_true]
  have hl : fB (aV F) (((List.length ([] : List ac)) : Int), 0, T, (0 : Int), n, [] ++ [], [], ()) = some (.inr (T, (0 : Int), ())) := ia (n := 1) (by rw [gv]; omega) (by rfl)
  have h1 : nE (T.2.1, sp0, [], T, 0, ()) = some (0, T, 0, ()) := by
    show aV abc _ = _
    rw [hF]
    show bI (aV F) _ = _
    simp only [bI, hget, decide_true, Bool.not_true, cond_false, hb, e2, e3, hl]
  simp only [eh, h1, decide_true, Bool.not_true, cond_false]
theorem am7 (l : List (aa)) (hl : l.length <= 1000) : cw (l, l, ()) = some (true, ()) := by
  obtain ⟨z, h1, rfl⟩ := aU (b := bE) (fun i (_ : Unit) => (l, l, (l.length : Int), (i : Int), ())) l.length (fun _ _ => True) (fun z => z = .inr ()) (by omega)
    (fun i hi _ _ => by
      left
      have e1 := dlt (i := i) (l := l) (by omega)
      have e2 := dzz i
      have e3 := wr1 i (by omega)
      exact ⟨(), trivial, by simp only [bE, e1, e2, cond_true, Bool.and_self, Int.toNat_natCast, aK hi, hM, decide_true, Bool.not_true, cond_false, e3]⟩)
    (fun _ _ => by
      have e1 := dnl l
      exact ⟨_, rfl, by simp only [bE, e1, cond_false]⟩) () trivial
  have h1' : dk (l, l, (l.length : Int), 0, ()) = some (.inr ()) := h1
  simp only [cw, decide_true, Bool.not_true, cond_false, h1']
theorem am9 (l : List (List UInt8)) (hl : l.length <= 1000) : d9 (l, l, ()) = some (true, ()) := by
  obtain ⟨z, h1, rfl⟩ := aU (b := bQ) (fun i (_ : Unit) => (l, l, (l.length : Int), (i : Int), ())) l.length (fun _ _ => True) (fun z => z = .inr ()) (by omega)
    (fun i hi _ _ => by
      left
      have e1 := dlt (i := i) (l := l) (by omega)
      have e2 := dzz i
      have e3 := wr1 i (by omega)
      exact ⟨(), trivial, by simp only [bQ, e1, e2, cond_true, Bool.and_self, Int.toNat_natCast, aK hi, hM, decide_true, Bool.not_true, cond_false, e3]⟩)
    (fun _ _ => by
      have e1 := dnl l
      exact ⟨_, rfl, by simp only [bQ, e1, cond_false]⟩) () trivial
  have h1' : eo (l, l, (l.length : Int), 0, ()) = some (.inr ()) := h1
  simp only [d9, decide_true, Bool.not_true, cond_false, h1']
theorem am5 (l : List (Int)) (hl : l.length <= 1000) : gE (l, l, ()) = some (true, ()) := by
  obtain ⟨z, h1, rfl⟩ := aU (b := da) (fun i (_ : Unit) => (l, l, (l.length : Int), (i : Int), ())) l.length (fun _ _ => True) (fun z => z = .inr ()) (by omega)
    (fun i hi _ _ => by
      left
      have e1 := dlt (i := i) (l := l) (by omega)
      have e2 := dzz i
      have e3 := wr1 i (by omega)
      exact ⟨(), trivial, by simp only [da, e1, e2, cond_true, Bool.and_self, Int.toNat_natCast, aK hi, hM, decide_true, Bool.not_true, cond_false, e3]⟩)
    (fun _ _ => by
      have e1 := dnl l
      exact ⟨_, rfl, by simp only [da, e1, cond_false]⟩) () trivial
  have h1' : io (l, l, (l.length : Int), 0, ()) = some (.inr ()) := h1
  simp only [gE, decide_true, Bool.not_true, cond_false, h1']
theorem amA (l : List (api_Sum)) (hl : l.length <= 1000) : cS (l, l, ()) = some (true, ()) := by
  obtain ⟨z, h1, rfl⟩ := aU (b := bK) (fun i (_ : Unit) => (l, l, (l.length : Int), (i : Int), ())) l.length (fun _ _ => True) (fun z => z = .inr ()) (by omega)
    (fun i hi _ _ => by
      left
      have e1 := dlt (i := i) (l := l) (by omega)
      have e2 := dzz i
      have e3 := wr1 i (by omega)
      exact ⟨(), trivial, by simp only [bK, e1, e2, cond_true, Bool.and_self, Int.toNat_natCast, aK hi, hM, decide_true, Bool.not_true, cond_false, e3]⟩)
    (fun _ _ => by
      have e1 := dnl l
      exact ⟨_, rfl, by simp only [bK, e1, cond_false]⟩) () trivial
  have h1' : dJ (l, l, (l.length : Int), 0, ()) = some (.inr ()) := h1
  simp only [cS, decide_true, Bool.not_true, cond_false, h1']
theorem am6 (l : List (ae)) (hl : l.length <= 1000) : cR (l, l, ()) = some (true, ()) := by
  obtain ⟨z, h1, rfl⟩ := aU (b := bJ) (fun i (_ : Unit) => (l, l, (l.length : Int), (i : Int), ())) l.length (fun _ _ => True) (fun z => z = .inr ()) (by omega)
    (fun i hi _ _ => by
      left
      have e1 := dlt (i := i) (l := l) (by omega)
      have e2 := dzz i
      have e3 := wr1 i (by omega)
      exact ⟨(), trivial, by simp only [bJ, e1, e2, cond_true, Bool.and_self, Int.toNat_natCast, aK hi, hM, decide_true, Bool.not_true, cond_false, e3]⟩)
    (fun _ _ => by
      have e1 := dnl l
      exact ⟨_, rfl, by simp only [bJ, e1, cond_false]⟩) () trivial
  have h1' : dI (l, l, (l.length : Int), 0, ()) = some (.inr ()) := h1
  simp only [cR, decide_true, Bool.not_true, cond_false, h1']
theorem amh (n : api_Node) (h : xG n) : yj (n, n, ()) = some (true, ()) := by
  obtain ⟨h1, h2, h3, h4, h5⟩ := h
  simp only [yj, am7 _ h1, am9 _ h2, am5 _ h3, amA _ h4, am6 _ h5, cond_true]
theorem anY (ns : List api_Node) (hl : ns.length <= 1000) : yu ((mk ns (fun _ => 1), ()), ()) = some ((ns.length : Int), ()) := by
  obtain ⟨z, h1, rfl⟩ := aU (b := md) (fun i (_ : Unit) => ((i : Int), mk ns (fun _ => 1), ((mk ns (fun _ => 1)).length : Int), (i : Int), ())) ns.length (fun _ _ => True) (fun z => z = .inl ((ns.length : Int), ())) (by omega)
    (fun i hi _ _ => by
      left
      have e1 : (decide (((i : Nat) : Int) < ((List.length (mk ns (fun _ => 1))) : Int))) = true := av (by rw [dP]; omega)
      have e2 := dzz i
      have e3 := wr1 i (by omega)
      exact ⟨(), trivial, by simp only [md, e1, e2, cond_true, Bool.and_self, Int.toNat_natCast, rG hi, e3]⟩)
    (fun _ _ => by
      have e1 : (decide (((ns.length : Nat) : Int) < ((List.length (mk ns (fun _ => 1))) : Int))) = false := aF (by rw [dP]; omega)
      exact ⟨_, rfl, by simp only [md, e1, cond_false]⟩) () trivial
  have h1' : uK ((0 : Int), mk ns (fun _ => 1), ((List.length (mk ns (fun _ => 1))) : Int), 0, ()) = some (.inl ((ns.length : Int), ())) := h1
  simp only [yu, h1']
theorem ajQ (ns : List api_Node) (n : api_Node) (root : Nat) (hr : root < ns.length) (hl : ns.length <= 900) (hs : ∀ x ∈ ns, xG x) : iA ((mk ns (fun _ => 1), ()), vL ns n root, ()) = some (1, ()) := by
  have hp : (vL ns n root).1 = (mk (ns ++ [n]) (fun _ => 1)).set root ip := rfl
  have hlen : ((mk (ns ++ [n]) (fun _ => 1)).set root ip).length = ns.length + 1 := alY ns n root
  obtain ⟨z, h1, rfl⟩ := aU (b := eJ) (fun i (_ : Unit) => (((i - ns.length : Nat) : Int), (mk (ns ++ [n]) (fun _ => 1)).set root ip, ((((mk (ns ++ [n]) (fun _ => 1)).set root ip).length : Nat) : Int), (i : Int), (mk ns (fun _ => 1), ()), ())) (ns.length + 1) (fun _ _ => True) (fun z => z = .inl (1, ())) (by omega)
    (fun i hi _ _ => by
      left
      have e1 : (decide (((i : Nat) : Int) < ((List.length ((mk (ns ++ [n]) (fun _ => 1)).set root ip)) : Int))) = true := av (by rw [hlen]; omega)
      have e2 := dzz i
      have e3 := wr1 i (by omega)
      have hil : i < ((mk (ns ++ [n]) (fun _ => 1)).set root ip).length := by omega
      refine ⟨(), trivial, ?_⟩
      by_cases hir : i = root
      · subst hir
        have g : ∀ d, List.getD ((mk (ns ++ [n]) (fun _ => 1)).set i ip) i d = ip := fun d => by
          rw [aK hil, List.getElem_set_self]
        have w0 : i - ns.length = 0 /\ i + 1 - ns.length = 0 := by omega
        simp only [eJ, e1, e2, cond_true, Bool.and_self, Int.toNat_natCast, g, cond_false, cU, e3, w0.1, w0.2]
      · have g : ∀ d, List.getD ((mk (ns ++ [n]) (fun _ => 1)).set root ip) i d = (true, (false, ((1 : Int), ((ns ++ [n])[i]'(by simp; omega), ())))) := fun d => by
          rw [aK hil, List.getElem_set_ne (Ne.symm hir), iE]
        by_cases hin : i < ns.length
        · have g2 : (ns ++ [n])[i]'(by simp; omega) = ns[i] := List.getElem_append_left hin
          have w0 : i - ns.length = 0 /\ i + 1 - ns.length = 0 := by omega
          have e4 : (decide (((i : Nat) : Int) >= ((List.length (mk ns (fun _ => 1))) : Int))) = false := aF (by rw [dP]; omega)
          have e5 : (decide (((i : Nat) : Int) < ((List.length (mk ns (fun _ => 1))) : Int))) = true := av (by rw [dP]; omega)
          have sm := amh ns[i] (hs _ (List.getElem_mem hin))
          simp only [eJ, e1, e2, cond_true, Bool.and_self, Int.toNat_natCast, g, g2, e4, e5, Bool.not_false, Bool.not_true, rG hin, sm, cond_false, cU, e3, w0.1, w0.2]
        · have w0 : i - ns.length = 0 /\ i + 1 - ns.length = 1 := by omega
          have e4 : (decide (((i : Nat) : Int) >= ((List.length (mk ns (fun _ => 1))) : Int))) = true := av (by rw [dP]; omega)
          have w1 : IntKind.i64.wrap (((0 : Nat) : Int) + 1) = ((1 : Nat) : Int) := by rw [dK (by omega)]; omega
          simp only [eJ, e1, e2, cond_true, Bool.and_self, Int.toNat_natCast, g, e4, Bool.not_true, cond_false, cU, e3, w0.1, w0.2, w1])
    (fun _ _ => by
      have e1 : (decide (((ns.length + 1 : Nat) : Int) < ((List.length ((mk (ns ++ [n]) (fun _ => 1)).set root ip)) : Int))) = false := aF (by rw [hlen]; omega)
      refine ⟨_, rfl, ?_⟩
      simp only [eJ, e1, cond_false]
      rw [show ns.length + 1 - ns.length = 1 by omega]
      rfl) () trivial
  have h1' : oB ((0 : Int), (mk (ns ++ [n]) (fun _ => 1)).set root ip, ((List.length ((mk (ns ++ [n]) (fun _ => 1)).set root ip)) : Int), 0, (mk ns (fun _ => 1), ()), ()) = some (.inl (1, ())) := by
    have := h1
    rw [Nat.zero_sub] at this
    exact this
  simp only [iA, hp, h1']
theorem anU (t : List aa) : inS sp0 t = t := by
  unfold inS
  rw [List.filter_eq_self]
  intro p hp
  exact kt.2 ⟨by cases p.1 <;> rfl, .inl rfl⟩
theorem akb (m : ae) (pv : List (List (List UInt8))) (s : ac) (h : ahh pv s = true) : cnt pv s m + 1 <= sz pv s := by
  rw [<- (aef m pv s h).1]
  exact akA m pv s
theorem agr (x : a9) (y : R5) (hx : aox x) (hy : raw6n y) : fP (x, y, ()) = some (true, ()) := by
  obtain ⟨ns, root, h1, h2, h3, h4, h5⟩ := an6 x hx
  obtain ⟨k, v, f, t, s, hmk, -⟩ := ym y hy.1
  obtain ⟨m, hm0⟩ : ∃ m, cH (Int.tmod y.1 6) k v f (acL f t) s (IntKind.i64.wrap (Int.tmod y.2.2.2.2.2.1 8)) = m := ⟨_, rfl⟩
  rw [hm0] at hmk
  have hm : MadeM m := ⟨y, hy, hmk⟩
  have hlv := amU x
  obtain ⟨l1, l2⟩ := aiA _ hlv
  have hT : TabOK (adt x) := an2 _ (fun y hy => hx.t.1 y (List.mem_of_mem_take hy)) (by simp; omega)
  have hTO : TOK (adt x) := aor x.1 hx.t.1
  have hg := anR _ hlv
  have hgl := amD _ hlv
  have hh := TreeS.ok hTO l2 h2
  have e0 : (decide ((0 : Int) = (0 : Int))) = true := rfl
  have hH := akk ns (shp x.2.2.1) root ((aeT x).length + 1) ⟨by omega, by omega⟩ hh
  have hlt := h2.lt
  cases hpv : aeT x with
  | nil =>
    rw [hpv] at h2 hH
    have h2 : ns[root]? = some (inS sp0 (adt x), [], [], [], [], ()) := h2
    rw [anU] at h2
    have ha := amp (shp x.2.2.1) h2 (by omega) hm hT (fun p hp => by
      obtain ⟨z, hz, rfl⟩ := acI _ p hp
      have := (aao z.1 (hx.t.1 z (List.mem_of_mem_take hz)).1.1 (hx.t.1 z (List.mem_of_mem_take hz)).1.2).2.1
      show (oT z.1).length < 1000
      omega)
    have w1 := ady ((mk ns (fun _ => 1), ()), (((root : Nat) : Int), (shp x.2.2.1, ()))) _ rfl rfl (ahK ns _ root _ hlt h2)
    have w2 := ady (vL ns (apM (adt x) m, [], [], [], [], ()) root, ((ns.length : Int), (shp x.2.2.1, ()))) _ rfl rfl (ahn hlt)
    have e1 : (decide (((([] : List (List (List UInt8))).length + 1 : Nat) : Int) = (1 : Int))) = true := rfl
    simp only [fP, aj6, h1, hmk, ha, w1, w2, decide_true, Bool.not_true, Bool.not_false, cond_true, gz, cond_false, hH, e1]
  | cons P pv =>
    rw [hpv] at h2 hH l1 l2 hg hgl h4
    have l1 : pv.length + 1 <= 2 := l1
    obtain ⟨a, U, a1, a2, a3, ⟨n, a4⟩, a5⟩ := weights (shp x.2.2.1) l2 (by omega) hg h2 hm (by omega)
    have hc : ahh (P :: pv) sp0 = true := by
      unfold aiY at hgl
      rw [Bool.and_eq_true] at hgl
      exact hgl.1
    have c1 := anL hm P pv hgl
    have c2 := akb m (P :: pv) sp0 hc
    have hr := akC (shp x.2.2.1) (P :: pv) root m hm h2 l2 (by omega)
    rw [(aef m (P :: pv) sp0 hc).1] at hr
    have hlive := anY ns (by omega)
    have hw := ajQ ns n root hlt (by omega) h5
    rw [<- a4] at hw
    have e1 : (decide ((((P :: pv).length + 1 : Nat) : Int) = (1 : Int))) = false := aF (by simp; omega)
    obtain ⟨c, hcn⟩ : ∃ c, cnt (P :: pv) sp0 m = c := ⟨_, rfl⟩
    rw [hcn] at a5 c1 c2 hr
    have e2 : IntKind.i64.wrap (((a + c : Nat) : Int) - (a : Int)) = (c : Int) := by rw [dK (by omega)]; omega
    have e3 : (decide (((a + c : Nat) : Int) > (a : Int))) = true := av (by omega)
    have e4 : (decide ((c : Int) < (ns.length : Int))) = true := av (by omega)
    simp only [fP, aj6, h1, hmk, a3, a2, a5, decide_true, Bool.not_true, Bool.not_false, cond_true, gz, cond_false, hH, e1, hr, e2, e3, hlive, e4, hw]
theorem oY {x : Int} (h : (Lit.int .u8 x).wf = true) : 0 <= x /\ x < 256 := by
  simp [Lit.wf, IntKind.min, IntKind.max, IntKind.signed, IntKind.bits] at h
  omega
abbrev tR3 : Ty := .pair (.int .u8) (.pair (.int .u8) (.pair (.int .u8) .unit))
abbrev tR6 : Ty := .pair (.int .u8) (.pair (.int .u8) (.pair (.int .u8) (.pair (.int .u8) (.pair (.int .u8) (.pair (.int .u8) .unit)))))
abbrev an1 : Ty := .pair (.list tR3) (.pair (.pair (.list tR6) (.pair (.list tR6) (.pair (.list tR6) (.pair (.list tR6) .unit)))) (.pair (.int .u8) .unit))
theorem ahL {B : Ty -> Nat} (hB : B tR6 = 6) {l : List R5} (h : Ty.good B (.list tR6) l) : (∀ y ∈ l, raw6n y) /\ l.length < 1000000000000000000 := by
  obtain ⟨h1, h2⟩ := h
  refine ⟨fun x hx => ?_, ?_⟩
  · have h := h2 x hx
    exact ⟨⟨oY h.1, oY h.2.1, oY h.2.2.1, oY h.2.2.2.1⟩, oY h.2.2.2.2.1, oY h.2.2.2.2.2.1⟩
  · rw [hB] at h1
    unfold reachBytes at h1
    omega
theorem anQ {B : Ty -> Nat} (hB : B tR3 = 3) {l : List aT} (h : Ty.good B (.list tR3) l) : (∀ y ∈ l, raw24 y) /\ l.length < 1000000000000000000 := by
  obtain ⟨h1, h2⟩ := h
  refine ⟨fun x hx => ?_, ?_⟩
  · have h := h2 x hx
    exact ⟨oY h.1, oY h.2.1, oY h.2.2.1⟩
  · rw [hB] at h1
    unfold reachBytes at h1
    omega
theorem apd {B : Ty -> Nat} (h3 : B tR3 = 3) (h6 : B tR6 = 6) {x : a9} (h : Ty.good B an1 x) : aox x :=
  ⟨⟨ahL h6 h.2.1.1, ahL h6 h.2.1.2.1, ahL h6 h.2.1.2.2.1, ahL h6 h.2.1.2.2.2.1⟩, anQ h3 h.1, oY h.2.2.1⟩
theorem ahF {B : Ty -> Nat} (h3 : B tR3 = 3) (h6 : B tR6 = 6) (y0 : a9) (y1 : R5) (g0 : Ty.good B an1 y0) (g1 : Ty.good B tR6 y1) : fP (y0, y1, ()) = some (true, ()) :=
  agr y0 y1 (apd h3 h6 g0) ⟨⟨oY g1.1, oY g1.2.1, oY g1.2.2.1, oY g1.2.2.2.1⟩, oY g1.2.2.2.2.1, oY g1.2.2.2.2.2.1⟩
end D
