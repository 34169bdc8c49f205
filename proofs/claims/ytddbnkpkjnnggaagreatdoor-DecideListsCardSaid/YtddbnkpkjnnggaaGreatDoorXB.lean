/- The engine, part O: structs and slices that are made. -/
import Derived.Test.YtddbnkpkjnnggaaGreatDoorXA
import Derived.Great.FillDense
import Derived.Laws.Tables
import Derived.ChangeMaps3
import Derived.Laws.BytesArg
import Derived.Lib.AppendZeros
import Derived.Lib.AppendZerosOnto
import Derived.Lib.ConvBytes
import Derived.OrdersIn
import Derived.TacticsIn
import Derived.LoopNIn
import Derived.RangeFuncLeaves
import Derived.RangeFuncRecord
import Derived.RangeFuncSeq
import Derived.Tactics
set_option linter.unusedVariables false
set_option linter.unusedSimpArgs false
namespace Go.X
open Go.RowKit

section
variable {P : Program} {cx : Cx} {φ : Phi} {ι ι' : Nat → Value} {w w' : World} {H : List Ob} {n : Nat} {r : RV} {H' : List Ob} {n' : Nat}
theorem fill_step {place : Nat → Option (Nat × Nat)} {cells : Array Value} {i : Nat} {v : Value} {rest : List (Nat × Value)} {off size : Nat} (hp : place i = some (off, size)) (hv : v.cells.size = size) (ho : off + size ≤ cells.size) :
    Instr.fill place cells ((i, v) :: rest) = Instr.fill place (cells.toList.take off ++ v.cells.toList ++ cells.toList.drop (off + size)).toArray rest := by
  rw [Instr.fill, hp]
  have h1 : ¬ (v.cells.size ≠ size || decide (off + v.cells.size > cells.size)) = true := by simp; omega
  simp only [h1, Bool.false_eq_true, if_false]
  congr 1
  rw [← Array.foldl_toList]
  apply Array.ext_getElem?
  intro k
  have := (Great.foldl_set off v.cells.toList 0 cells).2 k
  simp only [Array.toList_zipIdx] at this ⊢
  rw [this]
  simp only [Nat.add_zero, Array.length_toList, List.getElem?_toArray]
  by_cases hk : off ≤ k ∧ k < off + v.cells.size ∧ k < cells.size
  · rw [if_pos hk]
    rw [List.append_assoc, List.getElem?_append_right (by simp; omega), List.getElem?_append_left (by simp; omega)]
    congr 1
    simp; omega
  · rw [if_neg hk]
    rcases Nat.lt_or_ge k off with h2 | h2
    · rw [List.append_assoc, List.getElem?_append_left (by simp; omega), List.getElem?_take]
      simp [h2]
    · rw [List.getElem?_append_right (by simp; omega), List.getElem?_drop]
      simp only [List.length_append, List.length_take, Array.length_toList]
      rcases Nat.lt_or_ge k cells.size with h3 | h3
      · rw [show off + size + (k - (min off cells.size + v.cells.size)) = k by omega]; simp
      · rw [Array.getElem?_eq_none h3]
        symm
        rw [List.getElem?_eq_none]
        simp; omega
theorem flat_made (z : Array Value) (s : Nat) (hs : z.size = s) (h0 : 0 < s) : ∀ m, ((List.range (m * s)).map fun i => z[i % s]!) = (List.replicate m z.toList).flatten
  | 0 => by simp
  | m + 1 => by
    rw [show (m + 1) * s = s + m * s by rw [Nat.add_mul]; omega, List.range_add, List.map_append, List.map_map, List.replicate_succ, List.flatten_cons, ← flat_made z s hs h0 m]
    congr 1
    · apply List.ext_getElem
      · simp [hs]
      · intro i h1 h2
        have hi : i < s := by simpa using h1
        simp [Nat.mod_eq_of_lt hi, hs, hi]
    · apply List.map_congr_left
      intro i _
      simp
theorem made_cells {e : TypeId} {t : Ty} {bytes : Nat} (h : elemOk P e t bytes) (m : Nat) : ∃ z, (∀ w, (zeroValue e).run P w = .ok z w) ∧ z.cells.size = t.size ∧ 0 < t.size ∧
    ∀ φ w, Chunks (CR φ w t) (List.replicate m t.zero) ((Array.range (m * t.size)).map fun i => z.cells[i % z.cells.size]!).toList := by
  obtain ⟨ei, z, h1, h2, h3, _, h4, h5, h6, h7⟩ := h
  have h6' : z.cells.size = t.size := by simpa using h6
  refine ⟨z, fun w => by simp [zeroValue, typeInfo, h1, h4], h6', h5, fun φ w => ?_⟩
  have : ((Array.range (m * t.size)).map fun i => z.cells[i % z.cells.size]!).toList = (List.replicate m z.cells.toList).flatten := by
    rw [Array.toList_map, Array.toList_range, h6']
    exact flat_made z.cells t.size h6' h5 m
  rw [this]
  exact Chunks.replicate (h7 φ w) m
theorem Chunks.one {φ : Phi} {w : World} {t : Ty} {xs : List t.den} {cs : List Value} (h : Chunks (CR φ w t) xs cs) : ∀ v ∈ cs, v.oneCell' = true := by
  induction xs generalizing cs with
  | nil => simp only [Chunks] at h; subst h; simp
  | cons x xs ih =>
    obtain ⟨c1, c2, rfl, h1, h2⟩ := h
    intro v hv
    rcases List.mem_append.1 hv with hv | hv
    · exact CR.one t _ _ h1 v hv
    · exact ih h2 v hv
theorem Cells.of_chunks {φ : Phi} {w : World} {t : Ty} {cur : Array Value} {zs : List t.den} (h : Chunks (CR φ w t) zs cur.toList) (n : Nat) : Cells φ w t n cur :=
  ⟨h.one, .inr ⟨_, h.drop (fun x c => CR.len t x c) n⟩⟩
/-- A new array. -/
theorem newArr [Env] (h : HRel φ ι w H) {e : TypeId} {t : Ty} {xs : List t.den} {cur : Array Value} {c b : Nat} {fr : Nat × Nat} (g : Grew w w') (hb : w'.heap[b]? = some (.cells cur e fr)) (hbn : w.heap.size ≤ b) (hx : xs.length ≤ c) (hc : c ≤ maxLen)
    (hs : cur.size = c * t.size) (hf : frA t fr cur.size) (h1 : Cells φ w' t xs.length cur) (hk : Chunks (CR φ w' t) xs (cur.toList.take (xs.length * t.size))) (hn : n ≤ H.length) (hfree : (getOb H n).live = false) :
    Yld φ ι w H n (.own t n) (putOb H n (.arr e t xs false)) (n + 1) (.ok (.slice (some ⟨b, 0, none⟩) xs.length c) w') := by
  have hphi : ∀ k, ¬ φ b k := fun k hk => by have := phi_lt h hk; omega
  obtain ⟨k1, k2, k3, k4⟩ := newOb (v := .slice (some ⟨b, 0, none⟩) xs.length c) (ob := .arr e t xs false) h hn hfree g
    ⟨some ⟨b, 0, none⟩, xs.length, c, by simp [updI], rfl, hx, hc, .inr ⟨b, #[], cur, fr, rfl, by simpa using hb, hs, by simpa using hf, by simp, h1, hk, fun k hk => absurd hk (hphi k), fun hz => by cases hz⟩⟩ (by simp [Ob.ids]) rfl
    (fun b' hb' => by
      simp only [blk] at hb'
      split at hb'
      · cases hb'
      · injection hb' with hb'; omega)
  refine ⟨_, _, φ, _, rfl, k1, k2, k3, k4, rel_own ⟨by simp [updI], _, _, _, rfl⟩, ?_⟩
  intro i hi
  have : i = n := by simpa [RV.ids] using hi
  subst this
  rw [getOb_put H i _ i hn, if_pos rfl]
  rfl
/-- A nil slice that is taken for an array of the call's own. -/
theorem newNil [Env] (h : HRel φ ι w H) {e : TypeId} {t : Ty} {A : Option Addr} (hn : n ≤ H.length) (hfree : (getOb H n).live = false) :
    Yld φ ι w H n (.own t n) (putOb H n (.arr e t [] false)) (n + 1) (.ok (.slice A 0 0) w) := by
  obtain ⟨k1, k2, k3, k4⟩ := newOb (v := .slice A 0 0) (ob := .arr e t [] false) (w' := w) h hn hfree ⟨rfl, rfl, rfl, Nat.le_refl _, fun _ _ => rfl⟩
    ⟨A, 0, 0, by simp [updI], rfl, Nat.le_refl _, by simp, .inl rfl⟩ (by simp [Ob.ids]) rfl (fun b' hb' => by cases A <;> simp [blk] at hb')
  refine ⟨_, _, φ, _, rfl, k1, k2, k3, k4, rel_own ⟨by simp [updI], _, _, _, rfl⟩, ?_⟩
  intro i hi
  have : i = n := by simpa [RV.ids] using hi
  subst this
  rw [getOb_put H i _ i hn, if_pos rfl]
  rfl
theorem Yld.after [Env] {φ1 : Phi} {H1 : List Ob} {run : Result Value} (g : Ghost φ ι w H φ1 H1) (y : Yld φ1 ι w H1 n r H' n' run) : Yld φ ι w H n r H' n' run := by
  obtain ⟨v, w', φ', ι', k1, k2, k3, k4, k5, k6, k7⟩ := y
  exact ⟨v, w', φ', ι', k1, k2, g.step.trans k3, g.keep.trans k4, (g.nx n).trans k5, k6, k7⟩
theorem wrap_in {x : Int} (h0 : -9223372036854775808 ≤ x) (h1 : x < 9223372036854775808) : IntKind.i64.wrap x = x := by
  have e1 : IntKind.i64.bits = 64 := rfl
  have e2 : IntKind.i64.signed = true := rfl
  simp only [IntKind.wrap, e1, e2, Bool.true_and]
  have e3 : (2 : Int) ^ 64 = 18446744073709551616 := by decide
  have e4 : (2 : Int) ^ (64 - 1) = 9223372036854775808 := by decide
  rw [e3, e4]
  split
  · rename_i h; simp only [decide_eq_true_eq] at h; omega
  · rename_i h; simp only [decide_eq_true_eq] at h; omega
theorem makeSliceAct_sound [Env] (tab : TabOK P cx) {T : TypeId} {a b : Int} {ka kb : IntKind} (e : (makeSliceAct cx T a b).go H n = some (r, H', n')) (h : HRel φ ι w H) (hfr : Free H n n') :
    Yld φ ι w H n r H' n' ((Instr.makeSlice T (.int ka a) (.int kb b)).run P w) := by
  unfold makeSliceAct at e
  split at e
  · rename_i i hi
    split at e
    · rename_i t ht
      have q := go_chk2 e; clear e; obtain ⟨hb, e⟩ := q
      simp only [Bool.and_eq_true, decide_eq_true_eq] at hb
      obtain ⟨⟨h0, h1⟩, h2⟩ := hb
      simp only [HM.go, Option.some.injEq, Prod.mk.injEq] at e
      obtain ⟨rfl, rfl, rfl⟩ := e
      obtain ⟨hd, hel⟩ := list_desc tab hi ht
      obtain ⟨z, hz, hzs, ht0, hch⟩ := made_cells hel b.toNat
      obtain ⟨ei, z', g1, g2, g3, g4, _⟩ := hel
      have hbound : b.toNat * i.bytes ≤ roomMax := by
        have : ((b.toNat * i.bytes : Nat) : Int) ≤ (roomMax : Int) := by rw [Int.natCast_mul, Int.toNat_of_nonneg (by omega)]; exact h2
        omega
      have hb47 : b.toNat ≤ roomMax := Nat.le_trans (Nat.le_mul_of_pos_right _ g4) hbound
      have hrm : roomMax = 140737488355328 := rfl
      have wa : IntKind.i64.wrap a = a := wrap_in (by omega) (by omega)
      have wb : IntKind.i64.wrap b = b := wrap_in (by omega) (by omega)
      have hmul : (i.bytes : Int) * b ≤ 281474976710656 := by
        have : (i.bytes : Int) * b = b * i.bytes := Int.mul_comm _ _
        omega
      have hlarge : ∀ x : Int, 0 ≤ x → x ≤ b → (decide (x < 0) || decide ((i.bytes : Int) * x > 2 ^ 48)) = false := by
        intro x hx0 hx1
        have : (i.bytes : Int) * x ≤ (i.bytes : Int) * b := Int.mul_le_mul_of_nonneg_left hx1 (by omega)
        simp only [Bool.or_eq_false_iff, decide_eq_false_iff_not]
        omega
      have hrun : (Instr.makeSlice T (.int ka a) (.int kb b)).run P w = .ok (.slice (some ⟨w.heap.size, 0, none⟩) a.toNat b.toNat) (w.alloc (.cells ((Array.range (b.toNat * t.size)).map fun i => z.cells[i % z.cells.size]!) i.elem)) := by
        unfold Instr.makeSlice
        have hc1 := hlarge b (by omega) (Int.le_refl _)
        have hsz := run_sizeOf_elem (P := P) (w := w) (list_desc tab hi ht).2
        have hti : (typeInfo i.elem).run P w = .ok ei w := by simp [typeInfo, g1]
        have h2' : ¬ (a < 0) := by omega
        have h3' : ¬ (a > b) := by omega
        have hroom : ¬ (b.toNat * i.bytes > roomBytes) := by unfold roomBytes; omega
        simp only [Sem.run_bind, run_underlying hd, Result.andThen_ok, asInt, asIntOf, Sem.run_pure, hti, g3, wa, wb, hc1, h2', h3', decide_false, Bool.or_false, Bool.false_eq_true, if_false, askRoom, hroom, hsz]
        by_cases hz0 : b.toNat * t.size = 0
        · have hr0 : Array.range 0 = #[] := rfl
          simp [hz0, newRow, hr0]
        · simp [hz0, newRow, hz]
      rw [hrun]
      have hxl : (List.replicate a.toNat t.zero).length = a.toNat := List.length_replicate
      have := newArr (φ := φ) (ι := ι) (n := n) h (e := i.elem) (t := t) (xs := List.replicate a.toNat t.zero) (cur := (Array.range (b.toNat * t.size)).map fun i => z.cells[i % z.cells.size]!) (c := b.toNat) (b := w.heap.size) (fr := (0, 0)) (Grew.alloc w _)
        (heap_alloc_new w _) (Nat.le_refl _) (by rw [hxl]; omega) (by simp only [maxLen]; omega) (by simp) (frA_zero _ _) (Cells.of_chunks (hch φ _) _) (by
          rw [hxl]
          have h1 := (hch φ (w.alloc (.cells ((Array.range (b.toNat * t.size)).map fun i => z.cells[i % z.cells.size]!) i.elem))).take (fun x c => CR.len t x c) a.toNat
          rwa [List.take_replicate, Nat.min_eq_left (by omega)] at h1) hfr.1 (hfr.2 n (Nat.le_refl _) (by omega))
      rwa [hxl] at this
    · simp [HM.go] at e
  · simp [HM.go] at e
end
end Go.X
/- The engine, part P: struct and slice literals. -/
set_option linter.unusedVariables false
set_option linter.unusedSimpArgs false
namespace Go.X
open Go.RowKit

section
variable {P : Program} {cx : Cx} {φ : Phi} {ι ι' : Nat → Value} {w w' : World} {H : List Ob} {n : Nat} {r : RV} {H' : List Ob} {n' : Nat}
theorem relL_set : ∀ (l : List RV) (t : Ty) (cs : List Value) (j : Nat) (u : Ty) (x : RV) (v : Value), RV.relL φ ι w l cs → RV.fitsL l t = true → t.nth j = some u → x.rel φ ι w v → x.fits u = true →
    RV.relL φ ι w (l.set j x) (cs.take (t.offs j) ++ v.cells.toList ++ cs.drop (t.offs j + u.size)) ∧ RV.fitsL (l.set j x) t = true
  | [], t, cs, j, u, x, v, h, hf, hn, hx, hu => by
    have e : t = .unit := by simpa [RV.fitsL] using hf
    subst e
    cases j <;> simp [Ty.nth] at hn
  | r :: l, t, cs, j, u, x, v, ⟨v0, c2, e, h1, h2⟩, hf, hn, hx, hu => by
    subst e
    cases t with
    | pair a b =>
      simp only [RV.fitsL, Bool.and_eq_true] at hf
      have hlen : v0.cells.toList.length = a.size := by rw [← (RV.rel_fits r a v0 h1 hf.1).1]; simp
      cases j with
      | zero =>
        simp only [Ty.nth, Option.some.injEq] at hn
        subst hn
        refine ⟨⟨v, c2, ?_, hx, h2⟩, ?_⟩
        · simp only [Ty.offs, List.take_zero, List.nil_append, Nat.zero_add]
          rw [← hlen, List.drop_left]
        · simp [RV.fitsL, hu, hf.2]
      | succ j =>
        obtain ⟨k1, k2⟩ := relL_set l b c2 j u x v h2 hf.2 (by simpa [Ty.nth] using hn) hx hu
        refine ⟨⟨v0, _, ?_, h1, k1⟩, ?_⟩
        · simp only [Ty.offs]
          rw [← hlen, List.take_length_add_append, Nat.add_assoc, ← List.drop_drop, List.drop_left]
          simp
        · simp [RV.fitsL, hf.1, k2]
    | _ => simp [RV.fitsL] at hf
theorem idsL_set (l : List RV) (j : Nat) (x : RV) : ∀ i ∈ RV.idsL (l.set j x), i ∈ RV.idsL l ∨ i ∈ x.ids := by
  induction l generalizing j with
  | nil => intro i hi; simp [RV.idsL] at hi
  | cons a l ih =>
    cases j with
    | zero =>
      intro i hi
      simp only [List.set_cons_zero, RV.idsL, List.mem_append] at hi ⊢
      rcases hi with hi | hi
      · exact .inr hi
      · exact .inl (.inr hi)
    | succ j =>
      intro i hi
      simp only [List.set_cons_succ, RV.idsL, List.mem_append] at hi ⊢
      rcases hi with hi | hi
      · exact .inl (.inl hi)
      · rcases ih j i hi with h | h
        · exact .inl (.inr h)
        · exact .inr h
/-- Operands, one by one. -/
def Ops2 (φ : Phi) (ι : Nat → Value) (w : World) (H : List Ob) : List (Nat × RV) → List (Nat × Value) → Prop
  | [], [] => True
  | (i, x) :: l, (j, v) :: m => i = j ∧ x.rel φ ι w v ∧ (∀ k ∈ x.ids, (getOb H k).live = true) ∧ Ops2 φ ι w H l m
  | _, _ => False
theorem Ops2.ghost [Env] {φ' : Phi} (g : Ghost φ ι w H φ' H') : ∀ {l : List (Nat × RV)} {m : List (Nat × Value)}, Ops2 φ ι w H l m → Ops2 φ' ι w H' l m
  | [], [], _ => trivial
  | (i, x) :: l, (j, v) :: m, ⟨h1, h2, h3, h4⟩ => ⟨h1, RV.rel_step g.step g.keep h3 h2, fun k hk => by rw [g.live]; exact h3 k hk, h4.ghost g⟩
  | [], _ :: _, h => h.elim
  | _ :: _, [], h => h.elim
theorem rel_agg {l : List RV} {v : Value} (h : ∃ cs, v = .agg cs ∧ RV.relL φ ι w l cs.toList) : (RV.agg l).rel φ ι w v := h
theorem build_go [Env] {i : TI} {place : Nat → Option (Nat × Nat)} (hp : ∀ j U u, i.fields[j]? = some U → i.ty.nth j = some u → place j = some (i.ty.offs j, u.size)) :
    ∀ (parts : List (Nat × RV)) (pv : List (Nat × Value)) (φ : Phi) (l : List RV) (cells : Array Value) (H : List Ob) (n : Nat) (r : RV) (H' : List Ob) (n' : Nat), (buildAct.go cx i l parts).go H n = some (r, H', n') → HRel φ ι w H →
    RV.relL φ ι w l cells.toList → RV.fitsL l i.ty = true → (∀ k ∈ RV.idsL l, (getOb H k).live = true) → Ops2 φ ι w H parts pv →
    n' = n ∧ ∃ φ' cells' l', Ghost φ ι w H φ' H' ∧ Instr.fill place cells pv = some cells' ∧ r = .agg l' ∧ RV.relL φ' ι w l' cells'.toList ∧ RV.fitsL l' i.ty = true ∧ ∀ k ∈ RV.idsL l', (getOb H' k).live = true
  | [], [], φ, l, cells, H, n, r, H', n', e, h, hl, hf, hid, _ => by
    obtain ⟨rfl, rfl, rfl⟩ := go_ret e
    exact ⟨rfl, φ, cells, l, Ghost.refl h, rfl, rfl, hl, hf, hid⟩
  | [], _ :: _, _, _, _, _, _, _, _, _, _, _, _, _, _, ho => ho.elim
  | _ :: _, [], _, _, _, _, _, _, _, _, _, _, _, _, _, ho => ho.elim
  | (j, x) :: parts, (j', v) :: pv, φ, l, cells, H, n, r, H', n', e, h, hl, hf, hid, ⟨hj, hx, hlx, ho⟩ => by
    subst hj
    unfold buildAct.go at e
    split at e
    · rename_i U u hU hu
      obtain ⟨y, H1, n1, e1, e2⟩ := HM.go_bind_some e
      clear e
      obtain ⟨rfl, φ1, g1, hy, ly⟩ := boxed_sound e1 h (typ_rel (cx := cx) (T := U) hx) (fun k hk => hlx k (typ_ids k hk))
      have q := go_bif e2; clear e2; obtain ⟨hfit, e2⟩ := q
      have hl1 : RV.relL φ1 ι w l cells.toList := RV.relL_mono g1.step.phi g1.step.cells l _ (fun _ _ => rfl) hl
      obtain ⟨k1, k2⟩ := relL_set l i.ty cells.toList j u y v hl1 hf hu hy hfit
      have hlen : cells.toList.length = i.ty.size := (RV.relL_fits l i.ty _ hl hf).1
      have hoff := nth_offs hu
      have hvs := (RV.rel_fits y u v hy hfit).1
      have hstep := fill_step (rest := pv) (hp j U u hU hu) hvs (show i.ty.offs j + u.size ≤ cells.size by rw [← Array.length_toList, hlen]; exact hoff)
      obtain ⟨hn, φ', cells', l', g2, hfill, hr, hl', hf', hid'⟩ := build_go hp parts pv φ1 (l.set j y) (cells.toList.take (i.ty.offs j) ++ v.cells.toList ++ cells.toList.drop (i.ty.offs j + u.size)).toArray H1 n1 r H' n' e2 g1.rel (by simpa using k1) k2
        (fun k hk => by
          rcases idsL_set l j y k hk with h1 | h1
          · rw [g1.live]; exact hid k h1
          · exact ly k h1) (ho.ghost g1)
      exact ⟨hn, φ', cells', l', g1.trans g2, by rw [hstep]; exact hfill, hr, hl', hf', hid'⟩
    · simp [HM.go] at e
theorem buildAct_sound [Env] (tab : TabOK P cx) {T : TypeId} {parts : List (Nat × RV)} (e : (buildAct cx T parts).go H n = some (r, H', n')) (h : HRel φ ι w H) {pv : Array (Nat × Value)} (ho : Ops2 φ ι w H parts pv.toList) :
    Yld φ ι w H n r H' n' ((Instr.build T pv).run P w) := by
  unfold buildAct at e
  split at e
  · rename_i i l hi hz
    obtain ⟨i', z, hi', hrun, hzs, hza, hzf, hzi, hzr⟩ := zero_sound tab hz ⟨i, hi⟩
    rw [hi] at hi'
    injection hi' with hi'
    subst hi'
    obtain ⟨info, hinfo, _, hzinfo⟩ := (tab T i hi).info
    obtain ⟨z', hz', _⟩ := hzinfo _ hz
    have hzz : z = z' := by
      have := hrun w
      simp [zeroValue, typeInfo, hinfo, hz'] at this
      exact this.symm
    subst hzz
    obtain ⟨cs, rfl, hrl⟩ := hzr φ ι w
    have hagg : i.ty.isAgg = true := hza.symm
    -- the places of the fields
    obtain ⟨place, hp, hbuilt⟩ : ∃ place : Nat → Option (Nat × Nat), (∀ j U u, i.fields[j]? = some U → i.ty.nth j = some u → place j = some (i.ty.offs j, u.size)) ∧ P.built T pv.toList = Instr.fill place cs pv.toList := by
      have hd := (tab T i hi).desc
      unfold descOk at hd
      split at hd
      · rename_i e; rw [e] at hagg; cases hagg
      · rename_i e; rw [e] at hagg; cases hagg
      · rename_i e; rw [e] at hagg; cases hagg
      · rename_i e; rw [e] at hagg; cases hagg
      · rename_i e; rw [e] at hagg; cases hagg
      · rcases hd with ⟨_, fs, hd, hs, hk⟩ | ⟨_, m, e0, ei, hd, hm, he, hk⟩
        · have htot := Go.ChangeMaps.mapM_total (f := fun (f : Field) => (P.info? f.type).map fun i => (f.offset, i.size)) (0, 0) (l := fs.toList) (by
            intro fd hfd
            obtain ⟨k, hk1, hk2⟩ := List.getElem_of_mem hfd
            have hkl : k < i.fields.length := by rw [← hs]; simpa using hk1
            obtain ⟨fd', h1, h2, _, j, hj, _, _⟩ := hk k _ (List.getElem?_eq_getElem hkl)
            have h3 : fd' = fd := by
              have hk1' : k < fs.size := by simpa using hk1
              rw [Array.getElem?_eq_getElem hk1'] at h1
              injection h1 with h1
              rw [← h1, ← hk2]; simp
            subst h3
            obtain ⟨info', hi1, _⟩ := (tab _ j hj).info
            rw [h2, hi1]
            exact ⟨_, rfl⟩)
          refine ⟨fun x => ((fs.toList.map fun x => (((P.info? x.type).map fun i => (x.offset, i.size)).getD (0, 0))).toArray)[x]?, ?_, ?_⟩
          · intro j U u hU hu
            obtain ⟨fd, h1, h2, h3, j', hj', h4, h5⟩ := hk j U hU
            rw [hu] at h4
            injection h4 with h4
            subst h4
            obtain ⟨info', hi1, hi2, _⟩ := (tab _ j' hj').info
            have h1' : fs.toList[j]? = some fd := by simpa using h1
            simp [h1, h2, hi1, hi2, h3]
          · unfold Program.built
            rw [hinfo, hd]
            simp only [hz', htot]
            rfl
        · refine ⟨fun i => some (i * ei.size, ei.size), ?_, ?_⟩
          · intro j U u hU hu
            obtain ⟨h1, h2, j', hj', h4, h5⟩ := hk j U hU
            rw [hu] at h4
            injection h4 with h4
            subst h4
            obtain ⟨info', hi1, hi2, _⟩ := (tab _ j' hj').info
            rw [h1, he] at hi1
            injection hi1 with hi1
            subst hi1
            simp [← h2, hi2]
          · unfold Program.built
            rw [hinfo, hd]
            simp only [hz', he]
            rfl
    obtain ⟨hn, φ', cells', l', g, hfill, rfl, hl', hf', hid'⟩ := build_go (cx := cx) hp parts pv.toList φ l cs H n r H' n' e h hrl (by simpa [RV.fits] using hzf) (by
      have : RV.idsL l = [] := by simpa [RV.ids] using hzi
      rw [this]; simp) ho
    subst hn
    exact Yld.ghost g (rel_agg ⟨cells', rfl, hl'⟩) (by simpa [RV.ids] using hid') (run_build w T pv cells' (by rw [hbuilt, hfill]))
  · simp [HM.go] at e
end
end Go.X
/- The engine, part Q: append. -/
set_option linter.unusedVariables false
set_option linter.unusedSimpArgs false
namespace Go.X
open Go.RowKit

section
variable {P : Program} {cx : Cx} {φ φ' : Phi} {ι ι' : Nat → Value} {w w' : World} {H : List Ob} {n : Nat} {r : RV} {H' : List Ob} {n' : Nat}
/-- An array goes over into a new one: in place, or in a block of its own. -/
theorem moveArr [Env] (h : HRel φ ι w H) {o : Nat} (ho : (getOb H o).owns = true) (hn : n ≤ H.length) (hfree : (getOb H n).live = false) {v : Value} {ob : Ob} (hown : ob.owns = true) (hids : ob.ids = [])
    (hos : w'.os = w.os) (htape : w'.tape = w.tape) (hout : w'.output = w.output) (hsize : w.heap.size ≤ w'.heap.size) (hblocks : ∀ b, b < w.heap.size → blk (ι o) ≠ some b → w'.heap[b]? = w.heap[b]?)
    (hp : ∀ b k, φ b k → φ' b k) (hc : ∀ b k, φ b k → w'.cell? ⟨b, k, none⟩ = w.cell? ⟨b, k, none⟩) (hnew : ∀ b k, φ' b k → φ b k ∨ (blk v = some b ∧ ∃ u, w'.cell? ⟨b, k, none⟩ = some u))
    (hv : ∀ b, blk v = some b → w.heap.size ≤ b ∨ blk (ι o) = some b) (hob : ORel φ' (updI ι n v) w' n ob) :
    HRel φ' (updI ι n v) w' (putOb (putOb H o .gone) n ob) ∧ Step φ ι w H φ' (updI ι n v) w' (putOb (putOb H o .gone) n ob) ∧ Keep ι H (updI ι n v) (putOb (putOb H o .gone) n ob) ∧ Nx H n (putOb (putOb H o .gone) n ob) (n + 1) := by
  have hlo : ∀ i, (getOb H i).owns = true → (getOb H i).live = true := fun i ho => by cases hob : getOb H i <;> rw [hob] at ho <;> first | rfl | (cases ho)
  have hlt := lt_of_live (hlo o ho)
  have hne : ∀ i, (getOb H i).live = true → i ≠ n := fun i hi e => by subst e; rw [hfree] at hi; cases hi
  have hon : o ≠ n := hne o (hlo o ho)
  have hget : ∀ i, getOb (putOb (putOb H o .gone) n ob) i = if i = n then ob else if i = o then .gone else getOb H i := fun i => by
    rw [getOb_put _ n ob i (by rw [putOb_len H o _ hlt]; exact hn)]
    split
    · rfl
    · rw [getOb_put H o _ i (Nat.le_of_lt hlt)]
  have hi : ∀ i, (getOb H i).live = true → updI ι n v i = ι i := fun i hi => by simp [updI, hne i hi]
  have hlv : ob.live = true := by cases ob <;> first | rfl | (cases hown)
  have hl : ∀ i, (getOb H i).live = true → (getOb (putOb (putOb H o .gone) n ob) i).live = true := fun i h => by
    rw [hget, if_neg (hne i h)]
    split
    · rfl
    · exact h
  have hblkn : (updI ι n v) n = v := by simp [updI]
  -- another's block is not the new one's
  have hother : ∀ i b, i ≠ n → i ≠ o → (getOb H i).owns = true → blk (ι i) = some b → blk v ≠ some b ∧ b < w.heap.size ∧ blk (ι o) ≠ some b := by
    intro i b h1 h2 h3 h4
    have hb := owned_lt h h3 h4
    have h5 : blk (ι o) ≠ some b := fun e => h2 (h.apart i o b h3 ho h4 e)
    exact ⟨fun e => by rcases hv b e with h6 | h6
                       · omega
                       · exact h5 h6, hb, h5⟩
  refine ⟨⟨fun i => ?_, fun i j b hio hjo h1 h2 => ?_, fun b k hb => ?_, fun i j hj => ?_, fun g => (h.glob g).mono hp hc⟩, ⟨hp, hc, fun b k hb => ?_, hsize, hos, htape, hout, fun b hb hn' => hblocks b hb (fun e => hn' ⟨o, ho, e⟩), fun b hb => ?_⟩, ⟨hi, hl⟩, ?_⟩
  · rw [hget]
    split
    · rename_i e; subst e; exact hob
    · rename_i h1
      split
      · trivial
      · rename_i h2
        refine (h.obj i).keep hp hc (hi i) (fun j hj => hi j (h.ids i j hj)) fun b ho' hb => ?_
        · obtain ⟨k1, k2, k3⟩ := hother i b h1 h2 ho' hb
          refine ⟨hblocks b k2 k3, fun k hk => ?_⟩
          rcases hnew b k hk with h3 | h3
          · exact h3
          · exact absurd h3.1 k1
  · rw [hget] at hio hjo
    by_cases h3 : i = n
    · by_cases h4 : j = n
      · rw [h3, h4]
      · rw [if_neg h4] at hjo
        split at hjo
        · cases hjo
        · rename_i h5
          subst h3
          rw [hblkn] at h1
          rw [hi j (hlo j hjo)] at h2
          exact absurd h1 (hother j b h4 h5 hjo h2).1
    · rw [if_neg h3] at hio
      split at hio
      · cases hio
      · rename_i h5
        rw [hi i (hlo i hio)] at h1
        by_cases h4 : j = n
        · subst h4
          rw [hblkn] at h2
          exact absurd h2 (hother i b h3 h5 hio h1).1
        · rw [if_neg h4] at hjo
          split at hjo
          · cases hjo
          · rw [hi j (hlo j hjo)] at h2
            exact h.apart i j b hio hjo h1 h2
  · rcases hnew b k hb with h1 | h1
    · rw [hc b k h1]; exact h.phi b k h1
    · exact h1.2
  · rw [hget] at hj
    split at hj
    · rw [hids] at hj; simp at hj
    · split at hj
      · simp [Ob.ids] at hj
      · exact hl j (h.ids i j hj)
  · rcases hnew b k hb with h1 | h1
    · exact .inl h1
    · rcases hv b h1.1 with h2 | h2
      · exact .inr (.inl h2)
      · exact .inr (.inr ⟨o, ho, h2⟩)
  · obtain ⟨i, h1, h2⟩ := hb
    rw [hget] at h1
    split at h1
    · rename_i e
      subst e
      rw [hblkn] at h2
      rcases hv b h2 with h3 | h3
      · exact .inl h3
      · exact .inr ⟨o, ho, h3⟩
    · split at h1
      · cases h1
      · rw [hi i (hlo i h1)] at h2
        exact .inr ⟨i, h1, h2⟩
  · have hl2 := putOb_len H o .gone hlt
    refine ⟨by omega, ?_, fun h => ?_, fun i hi => ?_, fun h => ?_⟩
    · rcases Nat.lt_or_ge n H.length with h1 | h1
      · rw [putOb_len _ n ob (by rw [hl2]; exact h1), hl2]; exact Nat.le_refl _
      · have : n = (putOb H o .gone).length := by omega
        rw [this, putOb_len']; omega
    · rcases Nat.lt_or_ge n H.length with h1 | h1
      · rw [putOb_len _ n ob (by rw [hl2]; exact h1), hl2]; exact h1
      · have : n = (putOb H o .gone).length := by omega
        rw [this, putOb_len']; exact Nat.le_refl _
    · rw [hget, if_neg (by omega)]
      split
      · rename_i e; subst e; rw [hlo i ho]; rfl
      · rfl
    · have : n = (putOb H o .gone).length := by omega
      rw [this, putOb_len']
/-- What an append reads: its second argument. -/
structure Source (P : Program) (φ : Phi) (w : World) (t : Ty) (ys : List t.den) (x : Value) (news : List Value) : Prop where
  len : ∀ w, (Builtin.lenOf x).run P w = .ok ys.length w
  chunks : Chunks (CR φ w t) ys news
  cells : ∀ w', Grew w w' → (Builtin.firstCells t.size ys.length x).run P w' = .ok news.toArray w'
/-- The argument types of an append. -/
structure AppTy (P : Program) (T T2 e : TypeId) (t : Ty) (bytes : Nat) : Prop where
  dst : P.underlying T = some (.slice e)
  src : ∃ d, P.underlying T2 = some d ∧ ∀ k, d ≠ .int k
  el : elemOk P e t bytes
theorem Grew.refl (w : World) : Grew w w := ⟨rfl, rfl, rfl, Nat.le_refl _, fun _ _ => rfl⟩
theorem Grew.drew (w : World) : Grew w w.drew := ⟨rfl, rfl, rfl, Nat.le_refl _, fun _ _ => rfl⟩
theorem run_append_room' {T T2 ty e : TypeId} {t : Ty} {bytes : Nat} (ht : AppTy P T T2 e t bytes) {A : Option Addr} {m c : Nat} {x : Value} {ys : List t.den} {news : List Value} (hs : Source P φ w t ys x news) (hr : m + ys.length ≤ c)
    {w' : World} (hst : ∀ a, A = some a → (storeCells (a.add (m * t.size)) news).run P w = .ok () w') (hno : A = none → w' = w) :
    (Builtin.append_ #[T, T2] ty #[.slice A m c, x]).run P w = .ok (.slice A (m + ys.length) c) w' := by
  obtain ⟨d, hd, hk⟩ := ht.src
  have hz : (match d with | .int _ => true | _ => false) = false := by
    cases d <;> first | rfl | (exact absurd rfl (hk _))
  have h1 := run_sizeOf_elem (w := w) ht.el
  have h2 := hs.cells w (Grew.refl w)
  unfold Builtin.append_
  simp only [List.getElem?_toArray, List.getElem?_cons_zero, List.getElem?_cons_succ, Sem.run_bind, run_underlying ht.dst, run_underlying hd, Result.andThen_ok, h1, Sem.run_pure, hz, Bool.false_eq_true, if_false, hs.len, hr, if_true, Bool.not_false, h2]
  cases A with
  | none => simp [hno rfl]
  | some a => simp [hst a rfl]
theorem run_append_grow' {T T2 ty e : TypeId} {t : Ty} {bytes : Nat} (ht : AppTy P T T2 e t bytes) {A : Option Addr} {m c : Nat} {x : Value} {ys : List t.den} {news olds : List Value} (hs : Source P φ w t ys x news) (hr : c < m + ys.length)
    (hold : (Builtin.firstCells t.size m (.slice A m c)).run P w.drew = .ok olds.toArray w.drew) (hb : (m + ys.length) * bytes ≤ roomMax) :
    ∃ c' zs, m + ys.length ≤ c' ∧ c' ≤ maxLen ∧ zs.size = (c' - (m + ys.length)) * t.size ∧ (∃ us : List t.den, ∀ φ w, Chunks (CR φ w t) us zs.toList) ∧
    (Builtin.append_ #[T, T2] ty #[.slice A m c, x]).run P w = .ok (.slice (some ⟨w.heap.size, 0, none⟩) (m + ys.length) c') (w.drew.alloc (.cells (olds.toArray ++ news.toArray ++ zs) e)) := by
  obtain ⟨d, hd, hk⟩ := ht.src
  have hz : (match d with | .int _ => true | _ => false) = false := by
    cases d <;> first | rfl | (exact absurd rfl (hk _))
  have h1 := run_sizeOf_elem (w := w) ht.el
  have h2 := hs.cells w.drew (Grew.drew w)
  obtain ⟨ei, z, g1, g2, g3, g4, g5, g6, g7, g8⟩ := ht.el
  have hrm : roomMax = 140737488355328 := rfl
  have hb2 : m + ys.length ≤ roomMax := Nat.le_trans (Nat.le_mul_of_pos_right _ g4) hb
  have hfit := growslice_fits (bytes := bytes) hr (by omega)
  have hn : ¬ (m + ys.length ≤ c) := by omega
  have h63 : ¬ (((m + ys.length : Nat) : Int) > IntKind.i64.max ∧ ((false = true) ∨ bytes = 0)) := by
    rintro ⟨_, h | h⟩
    · cases h
    · omega
  have h48 : ¬ (Builtin.nextslicecap (m + ys.length) c * bytes > 2 ^ 48) := by omega
  have hti : ∀ w, (typeInfo e).run P w = .ok ei w := fun w => by simp [typeInfo, g1]
  have hzv : ∀ w, (zeroValue e).run P w = .ok z w := fun w => by simp [zeroValue, typeInfo, g1, g5]
  have hzl : z.cells.size = t.size := by simpa using g7
  refine ⟨grownCap w (m + ys.length) c e, Builtin.zeroCells z.cells (grownCap w (m + ys.length) c e - (m + ys.length)), grownCap_ge w _ _ _, grownCap_le_maxLen w _ _ _ (by simp only [maxLen]; omega), by rw [size_zeroCells, hzl], ?_, ?_⟩
  · obtain ⟨z', k1, k2, k3, k4⟩ := made_cells (P := P) (bytes := bytes) ⟨ei, z, g1, g2, g3, g4, g5, g6, g7, g8⟩ (grownCap w (m + ys.length) c e - (m + ys.length))
    have hzz : z' = z := by
      have e1 := k1 w
      rw [hzv] at e1
      injection e1 with e1 _
      exact e1.symm
    subst hzz
    refine ⟨List.replicate (grownCap w (m + ys.length) c e - (m + ys.length)) t.zero, fun φ w => ?_⟩
    have := k4 φ w
    rw [← hzl] at this
    exact this
  · unfold Builtin.append_
    simp only [List.getElem?_toArray, List.getElem?_cons_zero, List.getElem?_cons_succ, Sem.run_bind, run_underlying ht.dst, run_underlying hd, Result.andThen_ok, h1, Sem.run_pure, hz, Bool.false_eq_true, if_false, hs.len, hn, hti, g3, Bool.not_false]
    rw [if_neg (by rintro ⟨_, h | h⟩; exact h; omega)]
    simp only [Sem.run_bind, hti, Result.andThen_ok, g3]
    rw [if_neg h48]
    have hq : (choose (.appendCap (m + ys.length) c e)).run P w = .ok (grownCap w (m + ys.length) c e) w.drew := by simp [Question.forced, grownCap]
    have hroom : ∀ b, (askRoom b).run P w.drew = .ok () w.drew := fun b => by unfold askRoom; split <;> rfl
    simp only [Sem.run_pure, Result.andThen_ok, Sem.run_bind, hq, hti, g3, hroom, hold, h2, if_true, hzv, newRow, run_newObj_alloc]
    rfl
end
end Go.X
/- The engine, part R: append, as the evaluator has it. -/
set_option linter.unusedVariables false
set_option linter.unusedSimpArgs false
namespace Go.X
open Go.RowKit

section
variable {P : Program} {cx : Cx} {φ φ' : Phi} {ι ι' : Nat → Value} {w w' : World} {H : List Ob} {n : Nat} {r : RV} {H' : List Ob} {n' : Nat}
/-- A slice, read now. -/
structure Readable (φ : Phi) (w : World) (t : Ty) (xs : List t.den) (v : Value) : Prop where
  ex : ∃ A c ys, v = .slice A xs.length c ∧ xs.length ≤ c ∧ Chunks (CR φ w t) xs ys ∧ (xs.length = 0 ∨ ∃ b o, A = some ⟨b, o, none⟩ ∧ ∀ i u, ys[i]? = some u → w.cell? ⟨b, o + i, none⟩ = some u)
theorem Readable.of_CR {t : Ty} {xs : List t.den} {v : Value} (h : CR φ w (.list t) xs [v]) : Readable φ w t xs v := by
  obtain ⟨A, n, c, e, hl, hn, hh⟩ := h
  injection e with e _
  subst hl
  rcases hh with hh | ⟨b, o, ys, rfl, hat, hk⟩
  · refine ⟨A, c, [], e, hn, ?_, .inl hh⟩
    have : xs = [] := List.eq_nil_of_length_eq_zero hh
    subst this
    rfl
  · exact ⟨_, c, ys, e, hn, hk, .inr ⟨b, o, rfl, fun i u hu => (hat i u hu).2⟩⟩
theorem arr_read [Env] {o : Nat} {e : TypeId} {t : Ty} {xs : List t.den} {fz : Bool} (h : ORel φ ι w o (.arr e t xs fz)) {A A' : Option Addr} {n c lo hi : Nat} (hv : ι o = .slice A n c) (h1 : lo ≤ hi) (h2 : hi ≤ n) (hA : c ≠ lo → A' = A.map (·.add (lo * t.size))) :
    Readable φ w t ((xs.take hi).drop lo) (.slice A' (hi - lo) (c - lo)) := by
  obtain ⟨A2, n', c', e1, e2, e3, e4, hh⟩ := h
  rw [hv] at e1
  obtain ⟨rfl, rfl, rfl⟩ := slice_inj e1
  have hlen : ((xs.take hi).drop lo).length = hi - lo := by simp [e2]; omega
  by_cases hz : hi - lo = 0
  · have : (xs.take hi).drop lo = [] := List.eq_nil_of_length_eq_zero (by omega)
    refine ⟨A', c - lo, [], by rw [hlen], by omega, ?_, .inl (by omega)⟩
    rw [this]; rfl
  · have hc : c ≠ lo := by omega
    rcases hh with hh | ⟨b, pre, cur, fr, rfl, g1, g2, g3, g0, g4, g5, g6, g7⟩
    · omega
    · have hle : hi * t.size ≤ n * t.size := Nat.mul_le_mul_right _ h2
      refine ⟨A', c - lo, (cur.toList.take (hi * t.size)).drop (lo * t.size), by rw [hlen], by omega, ?_, .inr ⟨b, pre.size + lo * t.size, by rw [hA hc]; simp [addr_add], ?_⟩⟩
      · have := (g5.take (fun x c => CR.len t x c) hi).drop (fun x c => CR.len t x c) lo
        rwa [List.take_take, Nat.min_eq_left hle] at this
      · intro i v hi'
        rw [List.getElem?_drop, List.getElem?_take] at hi'
        split at hi'
        · rw [cell_of_heap g1, Nat.add_assoc, pre_get]; simpa using hi'
        · cases hi'
theorem elems_sound [Env] {x : RV} {d : DV} {vx : Value} (e : (elems x).go H n = some (d, H', n')) (h : HRel φ ι w H) (hx : x.rel φ ι w vx) (lx : ∀ i ∈ x.ids, (getOb H i).live = true) :
    n' = n ∧ ∃ φ', Ghost φ ι w H φ' H' ∧ ((∃ s, vx = .string ⟨⟨s⟩⟩ ∧ d = ⟨.list (.int .u8), bytesOfS s⟩ ∧ x.isStr = true) ∨ ∀ t xs, d = ⟨.list t, xs⟩ → Readable φ' w t xs vx) := by
  unfold elems at e
  split at e
  · rename_i t o
    simp only [HM.go] at e
    split at e
    · rename_i e0 u xs fz hm
      obtain ⟨fz', ho, rfl⟩ := mask_arr hm
      obtain ⟨rfl, rfl, rfl⟩ := go_ret e
      refine ⟨rfl, φ, Ghost.refl h, .inr fun t' xs' hd => ?_⟩
      injection hd with h1 h2
      injection h1 with h1
      subst h1
      obtain rfl := eq_of_heq h2
      obtain ⟨rfl, A, m, c, hv⟩ := hx
      have hro := h.obj o
      rw [ho] at hro
      have hr := arr_read hro hv (A' := A) (Nat.zero_le m) (Nat.le_refl m) (fun _ => by cases A <;> simp [Addr.add])
      obtain ⟨A2, n', c', e1, e2, _⟩ := hro
      rw [hv] at e1
      obtain ⟨rfl, rfl, rfl⟩ := slice_inj e1
      rw [hv]
      simpa [← e2] using hr
    · simp [HM.go] at e
  · rename_i t o lo hi
    simp only [HM.go] at e
    split at e
    · rename_i e0 u xs fz hm
      obtain ⟨fz', ho, rfl⟩ := mask_arr hm
      have q := go_bif e; clear e; obtain ⟨hu, e⟩ := q
      have hu : u = t := by simpa using hu
      subst hu
      obtain ⟨rfl, rfl, rfl⟩ := go_ret e
      refine ⟨rfl, φ, Ghost.refl h, .inr fun t' xs' hd => ?_⟩
      injection hd with h1 h2
      injection h1 with h1
      subst h1
      obtain rfl := eq_of_heq h2
      obtain ⟨A, m, c, A', hv, h1, h2, h3, rfl, hA, _⟩ := hx
      have hro := h.obj o
      rw [ho] at hro
      exact arr_read hro hv h1 h2 hA
    · simp [HM.go] at e
  · obtain ⟨rfl, rfl, rfl⟩ := go_ret e
    exact ⟨rfl, φ, Ghost.refl h, .inl ⟨_, VR.str.1 hx, rfl, rfl⟩⟩
  · obtain ⟨hn, φ', g, hv⟩ := toDat_sound x φ vx H n d H' n' e h hx lx
    refine ⟨hn, φ', g, .inr fun t xs hd => ?_⟩
    subst hd
    have hc := hv.1
    rw [cells_plain hv.2] at hc
    exact Readable.of_CR (by simpa using hc)
theorem Readable.source {t : Ty} {ys : List t.den} {v : Value} (h : Readable φ w t ys v) : ∃ news, Source P φ w t ys v news := by
  obtain ⟨A, c, news, rfl, hc, hk, hh⟩ := h
  refine ⟨news, fun w => by simp [Builtin.lenOf], hk, fun w' g => ?_⟩
  have hl := hk.len (fun x c => CR.len t x c)
  rcases hh with hh | ⟨b, o, rfl, hcell⟩
  · have : ys = [] := List.eq_nil_of_length_eq_zero hh
    subst this
    simp only [Chunks] at hk
    subst hk
    cases A with
    | none => exact run_firstCells_none _ _ _ _ _
    | some a => simpa using run_firstCells_some (P := P) w' t.size 0 a 0 c [] (by simp) (by simp)
  · exact run_firstCells_some (P := P) w' t.size ys.length _ ys.length c news hl (fun j u hj => by
      rw [addr_add]
      have h1 := hcell j u hj
      rw [g.cell (World.block_lt_of_cell? w _ h1)]
      exact h1)
theorem string_source (s : List UInt8) : Source P φ w (.int .u8) (bytesOfS s) (.string ⟨⟨s⟩⟩) (s.map fun b => .int .u8 (b.toNat : Int)) := by
  refine ⟨fun w => ?_, ?_, fun w' g => ?_⟩
  · have : (⟨⟨s⟩⟩ : ByteArray).size = s.length := rfl
    simp [Builtin.lenOf, bytesOfS, this]
  · induction s with
    | nil => rfl
    | cons a s ih => exact ⟨[.int .u8 (a.toNat : Int)], _, rfl, rfl, ih⟩
  · unfold Builtin.firstCells
    simp only [Sem.run_pure]
    congr 1
    apply Array.ext'
    simp [bytesOfS, ByteArray.data_extract, List.extract_eq_take_drop]
theorem srcTy_of (tab : TabOK P cx) {T : TypeId} (h : srcTy cx T = true) : ∃ d, P.underlying T = some d ∧ ∀ k, d ≠ .int k := by
  unfold srcTy at h
  split at h
  · rename_i j hj
    split at h
    · rename_i t ht; exact ⟨_, (list_desc tab hj ht).1, fun k e => by cases e⟩
    · rename_i ht; exact ⟨_, str_desc tab hj ht, fun k e => by cases e⟩
    · cases h
  · cases h
/-- append to the first elements of an array of the call's own. -/
theorem append_arr [Env] (h : HRel φ ι w H) {T T2 ty e : TypeId} {t : Ty} {bytes : Nat} (ht : AppTy P T T2 e t bytes) {o : Nat} {xs : List t.den} {fz : Bool} (ho : getOb H o = .arr e t xs fz) {A A' : Option Addr} {m c k : Nat} (hv : ι o = .slice A m c)
    (hk : k ≤ m) (hkz : fz = true → k = m) (hA : c ≠ 0 → A' = A) {x : Value} {ys : List t.den} {news : List Value} (hs : Source P φ w t ys x news) (hb : (k + ys.length) * bytes ≤ roomMax) (hn : n ≤ H.length) (hfree : (getOb H n).live = false) :
    Yld φ ι w H n (.own t n) (putOb (putOb H o .gone) n (.arr e t (xs.take k ++ ys) fz)) (n + 1) ((Builtin.append_ #[T, T2] ty #[.slice A' k c, x]).run P w) := by
  have hro := h.obj o
  rw [ho] at hro
  obtain ⟨A2, m2, c2, e1, e2, e3, e4, hh⟩ := hro
  rw [hv] at e1
  obtain ⟨rfl, rfl, rfl⟩ := slice_inj e1
  have how : (getOb H o).owns = true := by rw [ho]; rfl
  have hnl := hs.chunks.len (fun x c => CR.len t x c)
  have hxk : (xs.take k).length = k := by simp [e2]; omega
  have hlen : (xs.take k ++ ys).length = k + ys.length := by simp [e2]; omega
  have hlive : ∀ i ∈ (RV.own t n).ids, (getOb (putOb (putOb H o .gone) n (.arr e t (xs.take k ++ ys) fz)) i).live = true := by
    intro i hi
    have : i = n := by simpa [RV.ids] using hi
    subst this
    rw [getOb_put _ i _ i (by rw [putOb_len H o _ (lt_of_live (by rw [ho]; rfl))]; exact hn), if_pos rfl]
    rfl
  have hone := hs.chunks.one
  obtain ⟨ei, z, g1, g2, g3, g4, g5, g6, g7, g8⟩ := ht.el
  have hrm : roomMax = 140737488355328 := rfl
  have hkb : k + ys.length ≤ roomMax := Nat.le_trans (Nat.le_mul_of_pos_right _ g4) hb
  by_cases hroom : k + ys.length ≤ c
  · by_cases hc0 : c = 0
    · have hk0 : k = 0 := by omega
      have hy0 : ys = [] := List.eq_nil_of_length_eq_zero (by omega)
      subst hc0 hk0 hy0
      have hnews : news = [] := List.eq_nil_of_length_eq_zero (by simpa using hnl)
      subst hnews
      have hrun := run_append_room' (ty := ty) ht (A := A') hs hroom (w' := w) (fun a _ => rfl) (fun _ => rfl)
      rw [hrun]
      have hbv : ∀ b, blk (Value.slice A' (0 + ([] : List t.den).length) 0) ≠ some b := fun b => by cases A' <;> simp [blk]
      obtain ⟨k1, k2, k3, k4⟩ := moveArr (v := .slice A' (0 + ([] : List t.den).length) 0) (ob := .arr e t (xs.take 0 ++ []) fz) (w' := w) (φ' := φ) h how hn hfree rfl rfl rfl rfl rfl (Nat.le_refl _) (fun _ _ _ => rfl) (fun _ _ h => h) (fun _ _ _ => rfl) (fun _ _ h => .inl h)
        (fun b hb => absurd hb (hbv b)) ⟨A', 0 + ([] : List t.den).length, 0, by simp [updI], by simp, by simp, by simp, .inl rfl⟩
      exact ⟨_, _, φ, _, rfl, k1, k2, k3, k4, rel_own ⟨by simp [updI], _, _, _, rfl⟩, hlive⟩
    · obtain rfl := hA hc0
      rcases hh with hh | ⟨b, pre, cur, fr, rfl, q1, q2, q3, q0, q4, q5, q6, q7⟩
      · exact absurd hh hc0
      · have hblk : blk (ι o) = some b := by rw [hv]; simp [blk, hc0]
        have hle : (k + ys.length) * t.size ≤ c * t.size := Nat.mul_le_mul_right _ hroom
        rw [Nat.add_mul] at hle
        obtain ⟨w1, hst, hb1, hw1⟩ := run_storeCellsX P (pre.size + k * t.size) news 0 (pre ++ cur) w q1 (by rw [Array.size_append]; exact q3.ok) (by rw [hnl, Array.size_append, q2]; omega) hone
        have hrun := run_append_room' (ty := ty) ht hs hroom (A := some ⟨b, pre.size, none⟩) (w' := w1) (fun a ha => by injection ha with ha; subst ha; rw [addr_add]; simpa using hst) (fun h => by cases h)
        rw [hrun]
        simp only [Nat.add_zero] at hb1
        rw [splice_pre] at hb1
        let φ' : Phi := fun b' j => φ b' j ∨ (fz = true ∧ b' = b ∧ pre.size ≤ j ∧ j < pre.size + (k + ys.length) * t.size)
        have hkm : k * t.size ≤ m * t.size := Nat.mul_le_mul_right _ hk
        have hphi : ∀ j, φ b j → pre.size ≤ j ∧ j < pre.size + k * t.size := fun j hj => by
          obtain ⟨hz, hj'⟩ := q6 j hj
          rw [hkz hz]; exact hj'
        have hkc : k * t.size ≤ cur.size := by rw [q2]; exact Nat.mul_le_mul_right _ (by omega)
        have hcellb : ∀ j, pre.size ≤ j ∧ j < pre.size + k * t.size → w1.cell? ⟨b, j, none⟩ = w.cell? ⟨b, j, none⟩ := fun j hj => by
          obtain ⟨j', rfl⟩ : ∃ j', j = pre.size + j' := ⟨j - pre.size, by omega⟩
          rw [cell_of_heap hb1, cell_of_heap q1, pre_get, pre_get]
          simp only [List.getElem?_toArray]
          rw [List.append_assoc, List.getElem?_append_left (by simp only [List.length_take, Array.length_toList]; omega), List.getElem?_take, if_pos (by omega)]
          simp
        have hcell : ∀ b' j, φ b' j → w1.cell? ⟨b', j, none⟩ = w.cell? ⟨b', j, none⟩ := fun b' j hj => by
          by_cases hbb : b' = b
          · subst hbb; exact hcellb j (hphi j hj)
          · exact hw1.cell hbb
        have hsize1 : ((cur.toList.take (k * t.size) ++ news ++ cur.toList.drop (k * t.size + news.length)).toArray).size = cur.size := by
          simp only [List.size_toArray, List.length_append, List.length_take, List.length_drop, Array.length_toList, hnl]; omega
        have hob : ORel φ' (updI ι n (.slice (some ⟨b, pre.size, none⟩) (k + ys.length) c)) w1 n (.arr e t (xs.take k ++ ys) fz) := by
          refine ⟨some ⟨b, pre.size, none⟩, k + ys.length, c, by simp [updI], hlen, hroom, e4, .inr ⟨b, pre, _, fr, rfl, hb1, by rw [hsize1, q2], by rw [hsize1]; exact q3, q0, ?_, ?_, ?_, fun hz j hj => .inr ⟨hz, rfl, by omega, by omega⟩⟩⟩
          · refine ⟨?_, ?_⟩
            · intro v hv'
              simp only [List.mem_append] at hv'
              rcases hv' with (hv' | hv') | hv'
              · exact q4 v (List.mem_of_mem_take hv')
              · exact hone v hv'
              · exact q4 v (List.mem_of_mem_drop hv')
            · have e6 : ((cur.toList.take (k * t.size) ++ news ++ cur.toList.drop (k * t.size + news.length)).toArray).toList.drop ((k + ys.length) * t.size) = cur.toList.drop ((k + ys.length) * t.size) :=
                splice_drop (by simpa using hkc) (by rw [hnl, Nat.add_mul]; exact Nat.le_refl _)
              rw [e6]
              exact (q4.at_ q5 _).imp id fun ⟨zs, hz⟩ => ⟨zs, hz.imp fun x c => CR.mono (fun _ _ h => .inl h) hcell t x c⟩
          · have e5 : ((cur.toList.take (k * t.size) ++ news ++ cur.toList.drop (k * t.size + news.length)).toArray).toList.take ((k + ys.length) * t.size) = cur.toList.take (k * t.size) ++ news := by
              simp only []
              rw [List.take_append_of_le_length (by simp [hnl, Nat.add_mul]; omega), List.take_of_length_le (by simp [hnl, Nat.add_mul]; omega)]
            rw [e5]
            have h1 := q5.take (fun x c => CR.len t x c) k
            rw [List.take_take, Nat.min_eq_left hkm] at h1
            exact Chunks.append _ _ _ _ (h1.imp fun x c => CR.mono (fun _ _ h => .inl h) hcell t x c) (hs.chunks.imp fun x c => CR.mono (fun _ _ h => .inl h) hcell t x c)
          · rintro j (hj | ⟨hz, _, hj⟩)
            · refine ⟨(q6 j hj).1, ?_⟩
              have := hphi j hj
              rw [Nat.add_mul]; omega
            · exact ⟨hz, hj⟩
        obtain ⟨k1, k2, k3, k4⟩ := moveArr (v := .slice (some ⟨b, pre.size, none⟩) (k + ys.length) c) (ob := .arr e t (xs.take k ++ ys) fz) (w' := w1) (φ' := φ') h how hn hfree rfl rfl hw1.os hw1.tape hw1.output (by rw [hw1.size]; exact Nat.le_refl _)
          (fun b' hb' hne => hw1.blocks b' (fun e => hne (e ▸ hblk))) (fun _ _ h => .inl h) hcell
          (fun b' j hj => by
            rcases hj with hj | ⟨hz, rfl, hj⟩
            · exact .inl hj
            · refine .inr ⟨by simp [blk, hc0], ?_⟩
              rw [Nat.add_mul] at hj
              have hlt : j < (pre ++ (cur.toList.take (k * t.size) ++ news ++ cur.toList.drop (k * t.size + news.length)).toArray).size := by rw [Array.size_append, hsize1, q2]; omega
              exact ⟨_, by rw [cell_of_heap hb1]; exact Array.getElem?_eq_getElem hlt⟩)
          (fun b' hb' => .inr (by have : b = b' := by simpa [blk, hc0] using hb'
                                  rw [← this]; exact hblk)) hob
        exact ⟨_, _, φ', _, rfl, k1, k2, k3, k4, rel_own ⟨by simp [updI], _, _, _, rfl⟩, hlive⟩
  · -- it grows
    have hgr : c < k + ys.length := by omega
    obtain ⟨olds, hold, hchunk⟩ : ∃ olds, (Builtin.firstCells t.size k (.slice A' k c)).run P w.drew = .ok olds.toArray w.drew ∧ Chunks (CR φ w t) (xs.take k) olds := by
      by_cases hk0 : k = 0
      · subst hk0
        refine ⟨[], ?_, by simp [Chunks]⟩
        cases A' with
        | none => exact run_firstCells_none _ _ _ _ _
        | some a => simpa using run_firstCells_some (P := P) w.drew t.size 0 a 0 c [] (by simp) (by simp)
      · have hc0 : c ≠ 0 := by omega
        obtain rfl := hA hc0
        rcases hh with hh | ⟨b, pre, cur, fr, rfl, q1, q2, q3, q0, q4, q5, q6, q7⟩
        · exact absurd hh hc0
        · have hkm : k * t.size ≤ m * t.size := Nat.mul_le_mul_right _ hk
          have hkc : k * t.size ≤ cur.size := by rw [q2]; exact Nat.mul_le_mul_right _ (by omega)
          have h1 := q5.take (fun x c => CR.len t x c) k
          rw [List.take_take, Nat.min_eq_left hkm] at h1
          refine ⟨_, run_firstCells_some (P := P) w.drew t.size k _ k c (cur.toList.take (k * t.size)) (by simp; omega) (fun j u hj => ?_), h1⟩
          rw [addr_add]
          rw [List.getElem?_take] at hj
          split at hj
          · show w.cell? _ = _
            rw [cell_of_heap q1, pre_get]; simpa using hj
          · cases hj
    have holdlen := hchunk.len (fun x c => CR.len t x c)
    rw [hxk] at holdlen
    obtain ⟨c', zs, r1, r2, r3, r4, hrun⟩ := run_append_grow' (ty := ty) ht hs hgr hold hb
    rw [hrun]
    have gw := Grew.drew_alloc w (.cells (olds.toArray ++ news.toArray ++ zs) e)
    have hnb : (w.drew.alloc (.cells (olds.toArray ++ news.toArray ++ zs) e)).heap[w.heap.size]? = some (.cells (olds.toArray ++ news.toArray ++ zs) e (0, 0)) := heap_alloc_new w.drew _
    generalize hW : w.drew.alloc (.cells (olds.toArray ++ news.toArray ++ zs) e) = W at gw hnb ⊢
    have hWs : w.heap.size < W.heap.size := (Array.getElem?_eq_some_iff.1 hnb).1
    let φ' : Phi := fun b' j => φ b' j ∨ (fz = true ∧ b' = w.heap.size ∧ j < (k + ys.length) * t.size)
    have hcell : ∀ b' j, φ b' j → W.cell? ⟨b', j, none⟩ = w.cell? ⟨b', j, none⟩ := fun b' j hj => gw.cell (phi_lt h hj)
    have hc'0 : c' ≠ 0 := by omega
    have hszW : (olds.toArray ++ news.toArray ++ zs).size = c' * t.size := by
      simp only [Array.size_append, List.size_toArray, holdlen, hnl, r3]
      rw [← Nat.add_mul, ← Nat.add_mul]; congr 1; omega
    have hob : ORel φ' (updI ι n (.slice (some ⟨w.heap.size, 0, none⟩) (k + ys.length) c')) W n (.arr e t (xs.take k ++ ys) fz) := by
      refine ⟨some ⟨w.heap.size, 0, none⟩, k + ys.length, c', by simp [updI], hlen, r1, r2, .inr ⟨w.heap.size, #[], _, (0, 0), rfl, by rw [Array.empty_append]; exact hnb, hszW, frA_zero _ _, by simp, ?_, ?_, ?_, fun hz j hj => .inr ⟨hz, rfl, by simpa using hj⟩⟩⟩
      · obtain ⟨us, hus⟩ := r4
        have h9 := Chunks.append _ _ _ _ (Chunks.append _ _ _ _ (hchunk.imp fun x c => CR.mono (fun _ _ h => (.inl h : φ' _ _)) hcell t x c) (hs.chunks.imp fun x c => CR.mono (fun _ _ h => (.inl h : φ' _ _)) hcell t x c)) (hus φ' W)
        refine Cells.of_chunks (zs := xs.take k ++ ys ++ us) ?_ _
        simp only [Array.toList_append]
        exact h9
      · have e5 : (olds.toArray ++ news.toArray ++ zs).toList.take ((k + ys.length) * t.size) = olds ++ news := by
          simp only [Array.toList_append]
          rw [List.take_append_of_le_length (by simp [holdlen, hnl, Nat.add_mul]), List.take_of_length_le (by simp [holdlen, hnl, Nat.add_mul])]
        rw [e5]
        exact Chunks.append _ _ _ _ (hchunk.imp fun x c => CR.mono (fun _ _ h => .inl h) hcell t x c) (hs.chunks.imp fun x c => CR.mono (fun _ _ h => .inl h) hcell t x c)
      · rintro j (hj | ⟨hz, _, hj⟩)
        · have := phi_lt h hj; omega
        · exact ⟨hz, by simp, by simpa using hj⟩
    obtain ⟨k1, k2, k3, k4⟩ := moveArr (v := .slice (some ⟨w.heap.size, 0, none⟩) (k + ys.length) c') (ob := .arr e t (xs.take k ++ ys) fz) (w' := W) (φ' := φ') h how hn hfree rfl rfl gw.os gw.tape gw.output gw.size
      (fun b' hb' _ => gw.blocks b' hb') (fun _ _ h => .inl h) hcell
      (fun b' j hj => by
        rcases hj with hj | ⟨hz, rfl, hj⟩
        · exact .inl hj
        · refine .inr ⟨by simp [blk, hc'0], ?_⟩
          have hlt : j < (olds.toArray ++ news.toArray ++ zs).size := by
            rw [hszW]; exact Nat.lt_of_lt_of_le hj (Nat.mul_le_mul_right _ r1)
          exact ⟨_, by rw [cell_of_heap hnb]; exact Array.getElem?_eq_getElem hlt⟩)
      (fun b' hb' => .inl (by have : w.heap.size = b' := by simpa [blk, hc'0] using hb'
                              omega)) hob
    exact ⟨_, _, φ', _, rfl, k1, k2, k3, k4, rel_own ⟨by simp [updI], _, _, _, rfl⟩, hlive⟩
end
end Go.X
/- The engine, part Ra: an array of the call's own, written in place. -/
set_option linter.unusedVariables false
set_option linter.unusedSimpArgs false
namespace Go.X
open Go.RowKit
section
variable {P : Program} {cx : Cx} {φ φ' : Phi} {ι ι' : Nat → Value} {w w' : World} {H : List Ob} {n : Nat} {r : RV} {H' : List Ob} {n' : Nat}
theorem putOb_self : ∀ (H : List Ob) (o : Nat), o < H.length → putOb H o (getOb H o) = H
  | [], o, h => by simp at h
  | a :: l, 0, h => by simp [putOb, getOb]
  | a :: l, o + 1, h => by
    have ih := putOb_self l o (by simpa using h)
    have : getOb (a :: l) (o + 1) = getOb l o := by simp [getOb]
    rw [this]
    simp [putOb, ih]
theorem writeArr [Env] (h : HRel φ ι w H) {o : Nat} {e : TypeId} {t : Ty} {xs : List t.den} (ho : getOb H o = .arr e t xs false) {A : Option Addr} {m c : Nat} (hv : ι o = .slice A m c) {k : Nat} {ys : List t.den} {news : List Value} (hch : Chunks (CR φ w t) ys news)
    (hk : k + ys.length ≤ xs.length) {A' : Option Addr} (hA : ys.length ≠ 0 → A' = A.map (·.add (k * t.size))) :
    ∃ w', (∀ a, A' = some a → (storeCells a news).run P w = .ok () w') ∧ (A' = none → w' = w) ∧ HRel φ ι w' (putOb H o (.arr e t (xs.take k ++ ys ++ xs.drop (k + ys.length)) false)) ∧ Step φ ι w H φ ι w' (putOb H o (.arr e t (xs.take k ++ ys ++ xs.drop (k + ys.length)) false)) ∧
      Keep ι H ι (putOb H o (.arr e t (xs.take k ++ ys ++ xs.drop (k + ys.length)) false)) ∧ Nx H n (putOb H o (.arr e t (xs.take k ++ ys ++ xs.drop (k + ys.length)) false)) n := by
  have hlt : o < H.length := lt_of_live (by rw [ho]; rfl)
  have hnl := hch.len (fun x c => CR.len t x c)
  by_cases hy : ys.length = 0
  · have hy' : ys = [] := List.eq_nil_of_length_eq_zero hy
    subst hy'
    have hnews : news = [] := List.eq_nil_of_length_eq_zero (by simpa using hnl)
    subst hnews
    have he : (Ob.arr e t (xs.take k ++ [] ++ xs.drop (k + ([] : List t.den).length)) false) = getOb H o := by
      rw [ho]; simp
    rw [he, putOb_self H o hlt]
    exact ⟨w, fun a _ => rfl, fun _ => rfl, h, Step.refl _ _ _ _, Keep.refl _ _, Nx.refl _ _⟩
  · have hro := h.obj o
    rw [ho] at hro
    have hro' := hro
    obtain ⟨A2, m2, c2, e1, e2, e3, e4, hh⟩ := hro'
    rw [hv] at e1
    obtain ⟨rfl, rfl, rfl⟩ := slice_inj e1
    rcases hh with hh | ⟨b, pre, cur, fr, rfl, q1, q2, q3, q0, q4, q5, q6, q7⟩
    · omega
    · have hc0 : c ≠ 0 := by omega
      have hblk : blk (ι o) = some b := by rw [hv]; simp [blk, hc0]
      have hphi : ∀ j, ¬ φ b j := fun j hj => by have := (q6 j hj).1; cases this
      have hkm : (k + ys.length) * t.size ≤ m * t.size := Nat.mul_le_mul_right _ (by omega)
      have hmc : m * t.size ≤ c * t.size := Nat.mul_le_mul_right _ e3
      rw [Nat.add_mul] at hkm
      obtain ⟨w1, hst, hb1, hw1⟩ := run_storeCellsX P (pre.size + k * t.size) news 0 (pre ++ cur) w q1 (by rw [Array.size_append]; exact q3.ok) (by rw [hnl, Array.size_append, q2]; omega) hch.one
      simp only [Nat.add_zero] at hb1
      rw [splice_pre] at hb1
      rw [hA hy]
      have hsize1 : ((cur.toList.take (k * t.size) ++ news ++ cur.toList.drop (k * t.size + news.length)).toArray).size = cur.size := by
        simp only [List.size_toArray, List.length_append, List.length_take, List.length_drop, Array.length_toList, hnl]; omega
      have hcell : ∀ b' j, φ b' j → w1.cell? ⟨b', j, none⟩ = w.cell? ⟨b', j, none⟩ := fun b' j hj => hw1.cell (fun e => hphi j (e ▸ hj))
      have hob : ORel φ ι w1 o (.arr e t (xs.take k ++ ys ++ xs.drop (k + ys.length)) false) := by
        refine ⟨some ⟨b, pre.size, none⟩, m, c, hv, by simp; omega, e3, e4, .inr ⟨b, pre, _, fr, rfl, hb1, by rw [hsize1, q2], by rw [hsize1]; exact q3, q0, ?_, ?_, fun j hj => absurd hj (hphi j), fun hz => by cases hz⟩⟩
        · refine ⟨?_, ?_⟩
          · intro v hv'
            simp only [List.mem_append] at hv'
            rcases hv' with (hv' | hv') | hv'
            · exact q4 v (List.mem_of_mem_take hv')
            · exact hch.one v hv'
            · exact q4 v (List.mem_of_mem_drop hv')
          · have e6 : ((cur.toList.take (k * t.size) ++ news ++ cur.toList.drop (k * t.size + news.length)).toArray).toList.drop (m * t.size) = cur.toList.drop (m * t.size) :=
              splice_drop (by rw [Array.length_toList, q2]; omega) (by rw [hnl]; exact hkm)
            rw [e6]
            exact q4.rest.imp id fun ⟨zs, hz⟩ => ⟨zs, hz.imp fun x c => CR.mono (fun _ _ h => h) hcell t x c⟩
        · have e5 : ((cur.toList.take (k * t.size) ++ news ++ cur.toList.drop (k * t.size + news.length)).toArray).toList.take (m * t.size) = (cur.toList.take (m * t.size)).take (k * t.size) ++ news ++ (cur.toList.take (m * t.size)).drop ((k + ys.length) * t.size) := by
            simp only []
            rw [List.take_take, Nat.min_eq_left (by omega), List.drop_take, Nat.add_mul, ← hnl, List.take_append, List.take_of_length_le (by simp [hnl]; omega)]
            congr 2
            simp [hnl]
            omega
          rw [e5]
          have h1 := q5.take (fun x c => CR.len t x c) k
          have h2 := q5.drop (fun x c => CR.len t x c) (k + ys.length)
          exact Chunks.append _ _ _ _ (Chunks.append _ _ _ _ (h1.imp fun x c => CR.mono (fun _ _ h => h) hcell t x c) (hch.imp fun x c => CR.mono (fun _ _ h => h) hcell t x c)) (h2.imp fun x c => CR.mono (fun _ _ h => h) hcell t x c)
      obtain ⟨u1, u2, u3, u4⟩ := modOb (n := n) (ob := .arr e t (xs.take k ++ ys ++ xs.drop (k + ys.length)) false) h (by rw [ho]; rfl) hblk hw1 hphi hob (by simp [Ob.ids]) rfl
      refine ⟨w1, fun a ha => ?_, fun ha => by simp at ha, u1, u2, u3, u4⟩
      simp only [Option.map_some, Option.some.injEq] at ha
      subst ha
      rw [addr_add]
      exact hst
end
end Go.X
/- The engine, part Rb: clear. -/
set_option linter.unusedVariables false
set_option linter.unusedSimpArgs false
namespace Go.X
open Go.RowKit
section
variable {P : Program} {cx : Cx} {φ φ' : Phi} {ι ι' : Nat → Value} {w w' : World} {H : List Ob} {n : Nat} {r : RV} {H' : List Ob} {n' : Nat}
theorem rel_tup0 : (RV.tup []).rel φ ι w (.tuple #[]) := ⟨#[], rfl, rfl⟩
theorem clear_arr [Env] (tab : TabOK P cx) {T : TypeId} {i : TI} {t : Ty} (hi : cx.ti T = some i) (ht : i.ty = .list t) {Ts : Array TypeId} (hTs : Ts = #[T]) {ty : TypeId} (h : HRel φ ι w H) {o : Nat} {e : TypeId} {xs : List t.den} (ho : getOb H o = .arr e t xs false) {A : Option Addr} {m c : Nat} (hv : ι o = .slice A m c) {lo hi' : Nat} (h1 : lo ≤ hi') (h2 : hi' ≤ xs.length)
    {A' : Option Addr} {c' : Nat} (hA : hi' - lo ≠ 0 → A' = A.map (·.add (lo * t.size))) :
    Yld φ ι w H n (.tup []) (putOb H o (.arr e t (xs.take lo ++ List.replicate (hi' - lo) t.zero ++ xs.drop (lo + (hi' - lo))) false)) n ((Builtin.clear_ Ts ty #[.slice A' (hi' - lo) c']).run P w) := by
  subst hTs
  obtain ⟨hd, hel⟩ := list_desc tab hi ht
  obtain ⟨z, z1, z2, z3, z4⟩ := made_cells hel (hi' - lo)
  have hch := z4 φ w
  rw [← z2] at hch
  obtain ⟨w1, k1, k2, k3, k4, k5, k6⟩ := writeArr (P := P) (n := n) (k := lo) (A' := A') h ho hv hch (by simp; omega) (fun hne => hA (by simpa using hne))
  rw [List.length_replicate] at k3 k4 k5 k6
  refine ⟨_, w1, φ, ι, ?_, k3, k4, k5, k6, rel_tup0, by simp [RV.ids, RV.idsL]⟩
  unfold Builtin.clear_
  simp only [List.getElem?_toArray, List.getElem?_cons_zero, Sem.run_bind, run_underlying hd, Result.andThen_ok, Sem.run_pure]
  cases A' with
  | none => simp [k2 rfl]
  | some a =>
    cases hn : hi' - lo with
    | zero =>
      have hs := k1 a rfl
      rw [hn] at hs
      simp [storeCells] at hs
      simp [hs]
    | succ q =>
      have hs := k1 a rfl
      rw [hn] at hs
      have e0 : (Array.map (fun i => z.cells[i % z.cells.size]!) (Array.range ((q + 1) * z.cells.size))) = Builtin.zeroCells z.cells (q + 1) := rfl
      rw [e0] at hs
      simp [z1, hs]
theorem clearAct_sound [Env] (tab : TabOK P cx) {T ty : TypeId} {Ts : Array TypeId} (hTs : Ts = #[T]) {x : RV} (e : (clearAct cx T x).go H n = some (r, H', n')) (h : HRel φ ι w H) {v : Value} (hx : x.rel φ ι w v) (hsrc : ∃ d, P.underlying T = some d) :
    Yld φ ι w H n r H' n' ((Builtin.clear_ Ts ty #[v]).run P w) := by
  unfold clearAct at e
  split at e
  · rename_i t o
    have q := go_bif e; clear e; obtain ⟨hT, e⟩ := q
    obtain ⟨i, hi, ht⟩ := isTy_of hT
    simp only [HM.go] at e
    split at e
    · rename_i e0 u xs fz ho
      have q := go_bif e; clear e; obtain ⟨hb, e⟩ := q
      simp only [Bool.and_eq_true, decide_eq_true_eq, Bool.not_eq_true'] at hb
      obtain ⟨rfl, rfl⟩ := hb
      simp only [HM.go, Option.some.injEq, Prod.mk.injEq] at e
      obtain ⟨rfl, rfl, rfl⟩ := e
      obtain ⟨rfl, A, m, c, hv⟩ := hx
      have hro := h.obj o
      rw [ho] at hro
      obtain ⟨A2, m2, c2, e1, e2, e3, e4, hh⟩ := hro
      rw [hv] at e1
      obtain ⟨rfl, rfl, rfl⟩ := slice_inj e1
      subst e2
      have := clear_arr (n := n) (ty := ty) tab hi ht hTs h ho hv (lo := 0) (hi' := xs.length) (A' := A) (c' := c) (Nat.zero_le _) (Nat.le_refl _) (fun hne => by
        rcases hh with hh | ⟨b, pre, cur, fr, rfl, _⟩
        · omega
        · simp [addr_add])
      rw [hv]
      simpa using this
    · simp [HM.go] at e
  · rename_i t o lo hi'
    have q := go_bif e; clear e; obtain ⟨hT, e⟩ := q
    obtain ⟨i, hi, ht⟩ := isTy_of hT
    simp only [HM.go] at e
    split at e
    · rename_i e0 u xs fz ho
      have q := go_bif e; clear e; obtain ⟨hb, e⟩ := q
      simp only [Bool.and_eq_true, decide_eq_true_eq, Bool.not_eq_true'] at hb
      obtain ⟨rfl, rfl⟩ := hb
      simp only [HM.go, Option.some.injEq, Prod.mk.injEq] at e
      obtain ⟨rfl, rfl, rfl⟩ := e
      obtain ⟨A, m, c, A', hv, h1, h2, h3, rfl, hA, hB⟩ := hx
      have hro := h.obj o
      rw [ho] at hro
      obtain ⟨A2, m2, c2, e1, e2, _⟩ := hro
      rw [hv] at e1
      obtain ⟨rfl, rfl, rfl⟩ := slice_inj e1
      exact clear_arr (n := n) (ty := ty) tab hi ht hTs h ho hv h1 (by omega) (fun hne => hA (by omega))
    · simp [HM.go] at e
  · obtain ⟨rfl, rfl, rfl⟩ := go_ret e
    simp only [RV.rel] at hx
    subst hx
    obtain ⟨d, hd⟩ := hsrc
    subst hTs
    refine Yld.pure (r := .tup []) (v := .tuple #[]) h rel_tup0 (by simp [RV.ids, RV.idsL]) ?_
    unfold Builtin.clear_
    cases d <;> simp [run_underlying hd]
  · simp [HM.go] at e
end
end Go.X
/- The engine, part S: append, stores, copies. -/
set_option linter.unusedVariables false
set_option linter.unusedSimpArgs false
namespace Go.X
open Go.RowKit

section
variable {P : Program} {cx : Cx} {φ φ' : Phi} {ι ι' : Nat → Value} {w w' : World} {H : List Ob} {n : Nat} {r : RV} {H' : List Ob} {n' : Nat}
theorem source_of {d : DV} {vx : Value} {t : Ty} {ys : List t.den} (x : RV) (hd : d.t.cast? (.list t) d.x = some ys) (h : (∃ s, vx = .string ⟨⟨s⟩⟩ ∧ d = ⟨.list (.int .u8), bytesOfS s⟩ ∧ x.isStr = true) ∨ ∀ t xs, d = ⟨.list t, xs⟩ → Readable φ w t xs vx) :
    ∃ news, Source P φ w t ys vx news := by
  obtain ⟨u, z⟩ := d
  obtain ⟨e, rfl⟩ := cast_some hd
  simp only at e
  subst e
  rcases h with ⟨s, rfl, h, _⟩ | h
  · injection h with h1 h2
    injection h1 with h1
    subst h1
    obtain rfl := eq_of_heq h2
    exact ⟨_, string_source s⟩
  · exact (h t _ rfl).source
theorem list_cast {u t : Ty} {xs : List u.den} {ys : List t.den} (h : u.list.cast? t.list xs = some ys) : ∃ e : u = t, ys = e ▸ xs := by
  obtain ⟨e, rfl⟩ := cast_some h
  injection e with e
  subst e
  exact ⟨rfl, rfl⟩
theorem appendZ0_sound [Env] (tab : TabOK P cx) {T T2 ty : TypeId} {s x : RV} (e : (appendZ0 cx T T2 s x).go H n = some (r, H', n')) (h : HRel φ ι w H) {vs vx : Value} (hs : s.rel φ ι w vs) (hx : x.rel φ ι w vx) (hfr : Free H n n') :
    Yld φ ι w H n r H' n' ((Builtin.append_ #[T, T2] ty #[vs, vx]).run P w) := by
  unfold appendZ0 at e
  split at e
  · rename_i e0 t0 k m
    have q := go_bif e; clear e; obtain ⟨hT2, e⟩ := q
    obtain ⟨i2, hi2, ht2⟩ := isTy_of hT2
    split at e
    · rename_i i hi
      split at e
      · rename_i t ht
        obtain ⟨hd, hel⟩ := list_desc tab hi ht
        have hd2 : P.underlying T2 = some (.int k) := by
          have := (tab T2 i2 hi2).desc
          unfold descOk at this
          rw [ht2] at this
          exact this
        have q := go_chk2 e; clear e; obtain ⟨hb, e⟩ := q
        simp only [Bool.and_eq_true, decide_eq_true_eq] at hb
        obtain ⟨hb1, hb2⟩ := hb
        simp only [HM.go, Option.some.injEq, Prod.mk.injEq] at e
        obtain ⟨rfl, rfl, rfl⟩ := e
        simp only [RV.rel] at hs
        subst hs
        obtain rfl := VR.int.1 hx
        have hb1 : (0 : Int) < (m : Int) := hb1
        have hb2 : (m : Int) * (i.bytes : Int) ≤ (roomMax : Int) := hb2
        obtain ⟨a, rfl⟩ := Int.eq_ofNat_of_zero_le (show (0 : Int) ≤ (m : Int) by omega)
        rw [Int.toNat_natCast]
        obtain ⟨z, z1, z2, z3, z4⟩ := made_cells hel a
        obtain ⟨ei, z', g1, g2, g3, g4, g5, g6, g7, g8⟩ := hel
        have hzz : z = z' := by
          have e1 := z1 w
          simp [zeroValue, typeInfo, g1, g5] at e1
          exact e1.symm
        subst hzz
        have hrm : roomMax = 140737488355328 := rfl
        have hb3 : a * i.bytes ≤ 140737488355328 := by
          have q : ((a * i.bytes : Nat) : Int) ≤ ((roomMax : Nat) : Int) := by rw [Int.natCast_mul]; exact hb2
          exact hrm ▸ Int.ofNat_le.1 q
        have ha0 : 0 < a := by omega
        have ha : a ≤ a * i.bytes := Nat.le_mul_of_pos_right _ g4
        have hrun := Lib.run_append_nil_zeros (P := P) w T T2 ty i.elem ei z k k hd hd2 g1 g5 a ha0 (by rw [g2]; exact g6) (by omega) (by rw [g3]; omega)
        rw [hrun]
        have hge := grownCap_ge w a 0 i.elem
        obtain ⟨zb, y1, y2, y3, y4⟩ := made_cells (P := P) (t := t) (bytes := i.bytes) ⟨ei, z, g1, g2, g3, g4, g5, g6, g7, g8⟩ (grownCap w a 0 i.elem - a)
        have hzb : zb = z := by
          have e1 := y1 w
          simp [zeroValue, typeInfo, g1, g5] at e1
          exact e1.symm
        subst hzb
        have gw := Grew.drew_alloc w (.cells (Builtin.zeroCells zb.cells a ++ Builtin.zeroCells zb.cells (grownCap w a 0 i.elem - a)) i.elem)
        have hca : ∀ q, (Builtin.zeroCells zb.cells q).toList = ((Array.range (q * t.size)).map fun i => zb.cells[i % zb.cells.size]!).toList := fun q => by rw [← z2]; rfl
        have c1 := z4 φ (w.drew.alloc (.cells (Builtin.zeroCells zb.cells a ++ Builtin.zeroCells zb.cells (grownCap w a 0 i.elem - a)) i.elem))
        have c2 := y4 φ (w.drew.alloc (.cells (Builtin.zeroCells zb.cells a ++ Builtin.zeroCells zb.cells (grownCap w a 0 i.elem - a)) i.elem))
        rw [← hca] at c1 c2
        have l1 := c1.len (fun x c => CR.len t x c)
        have l2 := c2.len (fun x c => CR.len t x c)
        simp only [List.length_replicate, Array.length_toList] at l1 l2
        have := newArr (φ := φ) (ι := ι) (n := n) h (e := i.elem) (t := t) (xs := List.replicate a t.zero) (c := grownCap w a 0 i.elem) (b := w.heap.size) gw (heap_alloc_new w.drew _) (Nat.le_refl _) (by simpa using hge)
          (grownCap_le_maxLen w _ _ _ (by simp only [maxLen]; omega)) (by rw [Array.size_append, l1, l2, ← Nat.add_mul]; congr 1; omega) (frA_zero _ _)
          (Cells.of_chunks (by rw [Array.toList_append]; exact Chunks.append _ _ _ _ c1 c2) _)
          (by
            rw [Array.toList_append, List.length_replicate, List.take_append_of_le_length (by rw [Array.length_toList, l1]; exact Nat.le_refl _), List.take_of_length_le (by rw [Array.length_toList, l1]; exact Nat.le_refl _)]
            exact c1) hfr.1 (hfr.2 n (Nat.le_refl _) (by omega))
        simpa using this
      · simp [HM.go] at e
    · simp [HM.go] at e
  · simp [HM.go] at e
theorem appendZ_sound [Env] (tab : TabOK P cx) {T T2 ty : TypeId} {s x : RV} (e : (appendZ cx T T2 s x).go H n = some (r, H', n')) (h : HRel φ ι w H) {vs vx : Value} (hs : s.rel φ ι w vs) (hx : x.rel φ ι w vx) (hfr : Free H n n') :
    Yld φ ι w H n r H' n' ((Builtin.append_ #[T, T2] ty #[vs, vx]).run P w) := by
  unfold appendZ at e
  split at e
  · rename_i u xs c k m
    have q := go_bif e; clear e; obtain ⟨hT2, e⟩ := q
    obtain ⟨i2, hi2, ht2⟩ := isTy_of hT2
    split at e
    · rename_i i hi
      split at e
      · rename_i t ht
        obtain ⟨hd, hel⟩ := list_desc tab hi ht
        have hd2 : P.underlying T2 = some (.int k) := by
          have := (tab T2 i2 hi2).desc
          unfold descOk at this
          rw [ht2] at this
          exact this
        obtain ⟨xs', H3, n3, e5, e6⟩ := HM.go_bind_some e
        clear e
        obtain ⟨hc, rfl, rfl⟩ := go_opt e5
        obtain ⟨rfl, rfl⟩ := list_cast hc
        have q := go_chk2 e6; clear e6; obtain ⟨hb, e⟩ := q
        simp only [Bool.and_eq_true, decide_eq_true_eq] at hb
        obtain ⟨⟨hb1, hb4⟩, hb2⟩ := hb
        simp only [HM.go, Option.some.injEq, Prod.mk.injEq] at e
        obtain ⟨rfl, rfl, rfl⟩ := e
        obtain ⟨A, sl, rfl, hcr⟩ := hs
        obtain ⟨A2, m2, c2, e1', hl, hle, hh⟩ := hcr
        injection e1' with e1' _
        obtain ⟨rfl, rfl, rfl⟩ := slice_inj e1'
        obtain rfl := VR.int.1 hx
        have hb1 : (0 : Int) < (m : Int) := hb1
        have hb2 : ((xs'.length : Int) + (m : Int)) * (i.bytes : Int) ≤ (roomMax : Int) := hb2
        have hb4 : (c : Int) < (xs'.length : Int) + (m : Int) := hb4
        obtain ⟨a, rfl⟩ := Int.eq_ofNat_of_zero_le (show (0 : Int) ≤ (m : Int) by omega)
        rw [Int.toNat_natCast]
        obtain ⟨z, z1, z2, z3, z4⟩ := made_cells hel a
        have hel' := hel
        obtain ⟨ei, z', g1, g2, g3, g4, g5, g6, g7, g8⟩ := hel
        have hzz : z = z' := by
          have e1 := z1 w
          simp [zeroValue, typeInfo, g1, g5] at e1
          exact e1.symm
        subst hzz
        have hrm : roomMax = 140737488355328 := rfl
        have hb3 : (xs'.length + a) * i.bytes ≤ 140737488355328 := by
          have q : (((xs'.length + a) * i.bytes : Nat) : Int) ≤ ((roomMax : Nat) : Int) := by rw [Int.natCast_mul, Int.natCast_add]; exact hb2
          exact hrm ▸ Int.ofNat_le.1 q
        have ha0 : 0 < a := by omega
        have ha : xs'.length + a ≤ (xs'.length + a) * i.bytes := Nat.le_mul_of_pos_right _ g4
        have hab : a * i.bytes ≤ (xs'.length + a) * i.bytes := Nat.mul_le_mul_right _ (by omega)
        have hb5 : c < sl + a := by omega
        obtain ⟨olds, hold, hchunk⟩ : ∃ olds, (Builtin.firstCells u.size sl (.slice A sl c)).run P w.drew = .ok olds.toArray w.drew ∧ Chunks (CR φ w u) xs' olds := by
          rcases hh with hh | ⟨b, o, yy, rfl, hat, hk⟩
          · subst hh
            have : xs' = [] := List.eq_nil_of_length_eq_zero hl
            subst this
            refine ⟨[], ?_, rfl⟩
            cases A with
            | none => exact run_firstCells_none _ _ _ _ _
            | some a => simpa using run_firstCells_some (P := P) w.drew u.size 0 a 0 c [] (by simp) (by simp)
          · have hkl := hk.len (fun x c => CR.len u x c)
            exact ⟨yy, run_firstCells_some (P := P) w.drew u.size sl _ sl c yy (by rw [hkl, hl]) (fun j v hj => by rw [addr_add]; exact (hat j v hj).2), hk⟩
        have hfit := growslice_fits (bytes := i.bytes) hb5 (by rw [← hl]; omega)
        have hrun := Lib.run_append_grow_zeros (P := P) w T T2 ty i.elem ei z k k hd hd2 g1 g5 A sl c olds (by rw [g2]; exact hold) a ha0 (by rw [g2]; exact g6) hb5 (by rw [← hl]; omega) (by rw [g3]; omega) (by rw [g3]; omega)
        rw [hrun]
        have hge := grownCap_ge w (sl + a) c i.elem
        obtain ⟨zb, y1, y2, y3, y4⟩ := made_cells (P := P) (t := u) (bytes := i.bytes) ⟨ei, z, g1, g2, g3, g4, g5, g6, g7, g8⟩ (grownCap w (sl + a) c i.elem - (sl + a))
        have hzb : zb = z := by
          have e1 := y1 w
          simp [zeroValue, typeInfo, g1, g5] at e1
          exact e1.symm
        subst hzb
        have gw := Grew.drew_alloc w (.cells (olds.toArray ++ Builtin.zeroCells zb.cells a ++ Builtin.zeroCells zb.cells (grownCap w (sl + a) c i.elem - (sl + a))) i.elem)
        have hca : ∀ q, (Builtin.zeroCells zb.cells q).toList = ((Array.range (q * u.size)).map fun i => zb.cells[i % zb.cells.size]!).toList := fun q => by rw [← z2]; rfl
        have c1 := z4 φ (w.drew.alloc (.cells (olds.toArray ++ Builtin.zeroCells zb.cells a ++ Builtin.zeroCells zb.cells (grownCap w (sl + a) c i.elem - (sl + a))) i.elem))
        have c2 := y4 φ (w.drew.alloc (.cells (olds.toArray ++ Builtin.zeroCells zb.cells a ++ Builtin.zeroCells zb.cells (grownCap w (sl + a) c i.elem - (sl + a))) i.elem))
        rw [← hca] at c1 c2
        have c0 := hchunk.imp fun x cc => CR.mono (φ' := φ) (w' := w.drew.alloc (.cells (olds.toArray ++ Builtin.zeroCells zb.cells a ++ Builtin.zeroCells zb.cells (grownCap w (sl + a) c i.elem - (sl + a))) i.elem)) (fun _ _ h => h) (fun b k hk => gw.cell (phi_lt h hk)) u x cc
        have l0 := c0.len (fun x c => CR.len u x c)
        have l1 := c1.len (fun x c => CR.len u x c)
        have l2 := c2.len (fun x c => CR.len u x c)
        simp only [List.length_replicate, Array.length_toList] at l1 l2
        have hlen : (xs' ++ List.replicate a u.zero).length = sl + a := by simp [hl]
        have c01 := Chunks.append _ _ _ _ c0 c1
        have hall : (olds.toArray ++ Builtin.zeroCells zb.cells a ++ Builtin.zeroCells zb.cells (grownCap w (sl + a) c i.elem - (sl + a))).toList = (olds ++ (Builtin.zeroCells zb.cells a).toList) ++ (Builtin.zeroCells zb.cells (grownCap w (sl + a) c i.elem - (sl + a))).toList := by simp
        have l01 : (olds ++ (Builtin.zeroCells zb.cells a).toList).length = (xs' ++ List.replicate a u.zero).length * u.size := by
          rw [hlen, List.length_append, l0, hl, Nat.add_mul]; congr 1
        have := newArr (φ := φ) (ι := ι) (n := n3) h (e := i.elem) (t := u) (xs := xs' ++ List.replicate a u.zero) (c := grownCap w (sl + a) c i.elem) (b := w.heap.size) gw (heap_alloc_new w.drew _) (Nat.le_refl _) (by rw [hlen]; exact hge)
          (grownCap_le_maxLen w _ _ _ (by simp only [maxLen]; omega)) (by
            simp only [Array.size_append, List.size_toArray]
            rw [l0, l1, l2, hl, ← Nat.add_mul, ← Nat.add_mul]; congr 1; omega) (frA_zero _ _)
          (Cells.of_chunks (by rw [hall]; exact Chunks.append _ _ _ _ c01 c2) _)
          (by
            rw [hall, List.take_append_of_le_length (by rw [l01]; exact Nat.le_refl _), List.take_of_length_le (by rw [l01]; exact Nat.le_refl _)]
            exact c01) hfr.1 (hfr.2 n3 (Nat.le_refl _) (by omega))
        rwa [hlen] at this
      · simp [HM.go] at e
    · simp [HM.go] at e
  · exact appendZ0_sound tab e h hs hx hfr
theorem appendAct_sound [Env] (tab : TabOK P cx) {T T2 ty : TypeId} {s x : RV} (e : (appendAct cx T T2 s x).go H n = some (r, H', n')) (h : HRel φ ι w H) {vs vx : Value} (hs : s.rel φ ι w vs) (hx : x.rel φ ι w vx)
    (ls : ∀ i ∈ s.ids, (getOb H i).live = true) (lx : ∀ i ∈ x.ids, (getOb H i).live = true) (hfr : Free H n n') :
    Yld φ ι w H n r H' n' ((Builtin.append_ #[T, T2] ty #[vs, vx]).run P w) := by
  unfold appendAct at e
  cases hsrc : srcTy cx T2
  · rw [hsrc, cond_false] at e
    exact appendZ_sound tab e h hs hx hfr
  rw [hsrc, cond_true] at e
  split at e
  · rename_i i hi
    split at e
    · rename_i t ht
      obtain ⟨hd, hel⟩ := list_desc tab hi ht
      have hty : AppTy P T T2 i.elem t i.bytes := ⟨hd, srcTy_of tab hsrc, hel⟩
      obtain ⟨d, H1, n1, e1, e2⟩ := HM.go_bind_some e
      clear e
      obtain ⟨rfl, φ1, g1, hel1⟩ := elems_sound e1 h hx lx
      obtain ⟨ys, H2, n2, e3, e4⟩ := HM.go_bind_some e2
      clear e2
      obtain ⟨hcast, rfl, rfl⟩ := go_opt e3
      obtain ⟨news, src⟩ := source_of (P := P) x hcast hel1
      have hs1 := RV.rel_step g1.step g1.keep ls hs
      have ls1 : ∀ i ∈ s.ids, (getOb H2 i).live = true := fun i hi => by rw [g1.live]; exact ls i hi
      have hfr1 := hfr.ghost g1
      refine Yld.after g1 ?_
      split at e4
      · rename_i e0 u
        have q := go_chk2 e4; clear e4; obtain ⟨hb, e4⟩ := q
        have hb : ys.length * i.bytes ≤ roomMax := by simpa using hb
        simp only [HM.go, Option.some.injEq, Prod.mk.injEq] at e4
        obtain ⟨rfl, rfl, rfl⟩ := e4
        simp only [RV.rel] at hs1
        subst hs1
        have hfree := hfr1.2 n2 (Nat.le_refl _) (by omega)
        by_cases hy : ys.length = 0
        · have hy' : ys = [] := List.eq_nil_of_length_eq_zero hy
          subst hy'
          have hnews : news = [] := List.eq_nil_of_length_eq_zero (by simpa using src.chunks.len (fun x c => CR.len t x c))
          subst hnews
          have hrun := run_append_room' (ty := ty) hty (A := none) (m := 0) (c := 0) src (Nat.le_refl _) (w' := w) (fun a _ => rfl) (fun _ => rfl)
          rw [hrun]
          exact newNil g1.rel hfr1.1 hfree
        · obtain ⟨c', zs, r1, r2, r3, r4, hrun⟩ := run_append_grow' (ty := ty) hty (A := none) (m := 0) (c := 0) (olds := []) src (by omega) (run_firstCells_none _ _ _ _ _) (by simpa using hb)
          rw [hrun]
          have gw := Grew.drew_alloc w (.cells (([] : List Value).toArray ++ news.toArray ++ zs) i.elem)
          have hnl := src.chunks.len (fun x c => CR.len t x c)
          have hcur : (([] : List Value).toArray ++ news.toArray ++ zs).toList = news ++ zs.toList := by simp
          have := newArr (φ := φ1) (ι := ι) (n := n2) g1.rel (e := i.elem) (t := t) (xs := ys) (c := c') (b := w.heap.size) gw (heap_alloc_new w.drew _) (Nat.le_refl _) (by omega) r2
            (by simp only [Array.size_append, List.size_toArray, List.length_nil, hnl, r3, Nat.zero_add]; rw [← Nat.add_mul]; congr 1; omega) (frA_zero _ _)
            (by obtain ⟨us, hus⟩ := r4
                exact Cells.of_chunks (by rw [hcur]; exact Chunks.append _ _ _ _ (src.chunks.imp fun x c => CR.mono (fun _ _ h => h) (fun b k hk => gw.cell (phi_lt g1.rel hk)) t x c) (hus _ _)) _)
            (by rw [hcur, List.take_append_of_le_length (by rw [hnl]; exact Nat.le_refl _), List.take_of_length_le (by rw [hnl]; exact Nat.le_refl _)]
                exact src.chunks.imp fun x c => CR.mono (fun _ _ h => h) (fun b k hk => gw.cell (phi_lt g1.rel hk)) t x c) hfr1.1 hfree
          simpa using this
      · rename_i u o
        simp only [HM.go] at e4
        split at e4
        · rename_i e0 u' xs fz ho
          obtain ⟨xs', H3, n3, e5, e6⟩ := HM.go_bind_some e4
          clear e4
          obtain ⟨hc, rfl, rfl⟩ := go_opt e5
          obtain ⟨rfl, rfl⟩ := list_cast hc
          have q := go_bif e6; clear e6; obtain ⟨he0, e6⟩ := q
          have he0 : e0 = i.elem := by simpa using he0
          subst he0
          have q := go_chk2 e6; clear e6; obtain ⟨hb, e6⟩ := q
          have hb : (xs'.length + ys.length) * i.bytes ≤ roomMax := by simpa using hb
          simp only [HM.go, Option.some.injEq, Prod.mk.injEq] at e6
          obtain ⟨rfl, rfl, rfl⟩ := e6
          obtain ⟨rfl, A, m, c, hv⟩ := hs1
          have hro := g1.rel.obj o
          rw [ho] at hro
          obtain ⟨A2, m2, c2, e1', e2', _⟩ := hro
          rw [hv] at e1'
          obtain ⟨rfl, rfl, rfl⟩ := slice_inj e1'
          have := append_arr (ty := ty) g1.rel hty ho hv (k := m) (A' := A) (Nat.le_refl _) (fun _ => rfl) (fun _ => rfl) src (by rw [← e2']; exact hb) hfr1.1 (hfr1.2 n3 (Nat.le_refl _) (by omega))
          rw [hv]
          rwa [List.take_of_length_le (by omega)] at this
        · simp [HM.go] at e4
      · rename_i u o hi'
        cases hvo : viewOf x o
        case true =>
          rw [hvo, cond_true] at e4
          simp only [HM.go] at e4
          split at e4
          · rename_i e0 u' xs fz ho
            obtain ⟨xs', H3, n3, e5, e6⟩ := HM.go_bind_some e4
            clear e4
            obtain ⟨hc, rfl, rfl⟩ := go_opt e5
            obtain ⟨rfl, rfl⟩ := list_cast hc
            have q := go_bif e6; clear e6; obtain ⟨he0, e6⟩ := q
            simp only [Bool.and_eq_true, Bool.not_eq_true'] at he0
            obtain ⟨he0, rfl⟩ := he0
            have he0 : e0 = i.elem := by simpa using he0
            subst he0
            have q := go_chk2 e6; clear e6; obtain ⟨hb, e6⟩ := q
            have hb : hi' + ys.length ≤ xs'.length := by simpa using hb
            simp only [HM.go, Option.some.injEq, Prod.mk.injEq] at e6
            obtain ⟨rfl, rfl, rfl⟩ := e6
            obtain ⟨A, m, c, A', hv, h1, h2, h3, rfl, hA, hB⟩ := hs1
            have hro := g1.rel.obj o
            rw [ho] at hro
            obtain ⟨A2, m2, c2, e1', e2', _⟩ := hro
            rw [hv] at e1'
            obtain ⟨rfl, rfl, rfl⟩ := slice_inj e1'
            by_cases hc0 : c = 0
            · have hy : ys = [] := List.eq_nil_of_length_eq_zero (by omega)
              have hx0 : xs' = [] := List.eq_nil_of_length_eq_zero (by omega)
              have hh0 : hi' = 0 := by omega
              subst hy hh0
              have hnews : news = [] := List.eq_nil_of_length_eq_zero (by simpa using src.chunks.len (fun x c => CR.len u' x c))
              subst hnews
              have hrun := run_append_room' (ty := ty) hty (A := A') (m := 0) (c := c - 0) src (by simp) (w' := w) (fun a _ => rfl) (fun _ => rfl)
              rw [hrun]
              have he : (Ob.arr i.elem u' (xs'.take 0 ++ [] ++ xs'.drop (0 + ([] : List u'.den).length)) false) = getOb H3 o := by rw [ho]; simp
              rw [he, putOb_self H3 o (lt_of_live (by rw [ho]; rfl))]
              exact Yld.pure (r := .view u' o 0 (0 + ([] : List u'.den).length)) g1.rel (rel_view ⟨A, m, c, A', hv, by simp, by simp, h3, by simp, fun h => by simpa using hA h, hB⟩) (by
                intro j hj
                have : j = o := by simpa [RV.ids] using hj
                subst this
                rw [ho]; rfl) rfl
            · have hA0 : A' = A := by
                rw [hA hc0]
                obtain ⟨b, k0, rfl⟩ := hB hc0
                simp [addr_add]
              obtain ⟨w1, k1, k2, k3, k4, k5, k6⟩ := writeArr (n := n3) (k := hi') (A' := A.map (·.add (hi' * u'.size))) g1.rel ho hv src.chunks hb (fun _ => rfl)
              have hrun := run_append_room' (ty := ty) hty (A := A') (m := hi') (c := c - 0) src (by omega) (w' := w1) (fun a ha => k1 _ (by rw [← hA0, ha]; rfl)) (fun ha => k2 (by rw [← hA0, ha]; rfl))
              have e0 : hi' - 0 = hi' := Nat.sub_zero _
              rw [e0, hrun]
              refine ⟨_, w1, φ1, ι, rfl, k3, k4, k5, k6, rel_view ⟨A, m, c, A', hv, Nat.zero_le _, by omega, h3, by simp, fun h => by simpa using hA h, hB⟩, fun j hj => ?_⟩
              have : j = o := by simpa [RV.ids] using hj
              subst this
              rw [getOb_put _ j _ j (Nat.le_of_lt (lt_of_live (by rw [ho]; rfl))), if_pos rfl]
              rfl
          · simp [HM.go] at e4
        rw [hvo, cond_false] at e4
        simp only [HM.go] at e4
        split at e4
        · rename_i e0 u' xs fz ho
          obtain ⟨xs', H3, n3, e5, e6⟩ := HM.go_bind_some e4
          clear e4
          obtain ⟨hc, rfl, rfl⟩ := go_opt e5
          obtain ⟨rfl, rfl⟩ := list_cast hc
          have q := go_bif e6; clear e6; obtain ⟨he0, e6⟩ := q
          simp only [Bool.and_eq_true, Bool.not_eq_true'] at he0
          obtain ⟨he0, rfl⟩ := he0
          have he0 : e0 = i.elem := by simpa using he0
          subst he0
          have q := go_chk2 e6; clear e6; obtain ⟨hb, e6⟩ := q
          have hb : ((xs'.take hi').length + ys.length) * i.bytes ≤ roomMax := by simpa using hb
          simp only [HM.go, Option.some.injEq, Prod.mk.injEq] at e6
          obtain ⟨rfl, rfl, rfl⟩ := e6
          obtain ⟨A, m, c, A', hv, h1, h2, h3, rfl, hA, hB⟩ := hs1
          have hro := g1.rel.obj o
          rw [ho] at hro
          obtain ⟨A2, m2, c2, e1', e2', _⟩ := hro
          rw [hv] at e1'
          obtain ⟨rfl, rfl, rfl⟩ := slice_inj e1'
          have hl : (xs'.take hi').length = hi' := by simp; omega
          rw [hl] at hb
          have := append_arr (ty := ty) g1.rel hty ho hv (k := hi') (A' := A') h2 (fun h => by cases h) (fun hc0 => by
            rw [hA hc0]
            obtain ⟨b, k0, rfl⟩ := hB hc0
            simp [addr_add]) src hb hfr1.1 (hfr1.2 n3 (Nat.le_refl _) (by omega))
          simpa using this
        · simp [HM.go] at e4
      · rename_i u xs
        obtain ⟨xs', H3, n3, e5, e6⟩ := HM.go_bind_some e4
        clear e4
        obtain ⟨hc, rfl, rfl⟩ := go_opt e5
        obtain ⟨rfl, rfl⟩ := list_cast hc
        have q := go_chk2 e6; clear e6; obtain ⟨hb, e6⟩ := q
        simp only [Bool.and_eq_true, decide_eq_true_eq] at hb
        simp only [HM.go, Option.some.injEq, Prod.mk.injEq] at e6
        obtain ⟨rfl, rfl, rfl⟩ := e6
        obtain ⟨A, m, rfl, hcr⟩ := hs1
        obtain ⟨A2, m2, c2, e1', hl, hle, hh⟩ := hcr
        injection e1' with e1' _
        obtain ⟨rfl, rfl, rfl⟩ := slice_inj e1'
        obtain ⟨olds, hold, hchunk⟩ : ∃ olds, (Builtin.firstCells u.size m (.slice A m m)).run P w.drew = .ok olds.toArray w.drew ∧ Chunks (CR φ1 w u) xs' olds := by
          rcases hh with hh | ⟨b, o, yy, rfl, hat, hk⟩
          · subst hh
            have : xs' = [] := List.eq_nil_of_length_eq_zero hl
            subst this
            refine ⟨[], ?_, rfl⟩
            cases A with
            | none => exact run_firstCells_none _ _ _ _ _
            | some a => simpa using run_firstCells_some (P := P) w.drew u.size 0 a 0 0 [] (by simp) (by simp)
          · have hkl := hk.len (fun x c => CR.len u x c)
            exact ⟨yy, run_firstCells_some (P := P) w.drew u.size m _ m m yy (by rw [hkl, hl]) (fun j v hj => by rw [addr_add]; exact (hat j v hj).2), hk⟩
        obtain ⟨c', zs, r1, r2, r3, r4, hrun⟩ := run_append_grow' (ty := ty) hty (A := A) (m := m) (c := m) (olds := olds) src (by omega) hold (by rw [← hl]; exact hb.2)
        rw [hrun]
        have gw := Grew.drew_alloc w (.cells (olds.toArray ++ news.toArray ++ zs) i.elem)
        have hnl := src.chunks.len (fun x c => CR.len u x c)
        have hol := hchunk.len (fun x c => CR.len u x c)
        have hall := Chunks.append _ _ _ _ hchunk src.chunks
        have hlen : (xs' ++ ys).length = m + ys.length := by simp [hl]
        have hcur : (olds.toArray ++ news.toArray ++ zs).toList = (olds ++ news) ++ zs.toList := by simp
        have hol2 : (olds ++ news).length = (xs' ++ ys).length * u.size := by simp [hol, hnl, Nat.add_mul]
        have := newArr (φ := φ1) (ι := ι) (n := n3) g1.rel (e := i.elem) (t := u) (xs := xs' ++ ys) (c := c') (b := w.heap.size) gw (heap_alloc_new w.drew _) (Nat.le_refl _) (by rw [hlen]; exact r1) r2
          (by simp only [Array.size_append, List.size_toArray, hol, hnl, r3, hl]; rw [← Nat.add_mul, ← Nat.add_mul]; congr 1; omega) (frA_zero _ _)
          (by obtain ⟨us, hus⟩ := r4
              exact Cells.of_chunks (by rw [hcur]; exact Chunks.append _ _ _ _ (hall.imp fun x c => CR.mono (fun _ _ h => h) (fun b k hk => gw.cell (phi_lt g1.rel hk)) u x c) (hus _ _)) _)
          (by rw [hcur, List.take_append_of_le_length (by rw [hol2]; exact Nat.le_refl _), List.take_of_length_le (by rw [hol2]; exact Nat.le_refl _)]
              exact hall.imp fun x c => CR.mono (fun _ _ h => h) (fun b k hk => gw.cell (phi_lt g1.rel hk)) u x c) hfr1.1 (hfr1.2 n3 (Nat.le_refl _) (by omega))
        rwa [hlen] at this
      · simp [HM.go] at e4
    · simp [HM.go] at e
  · simp [HM.go] at e
end
end Go.X
/- The engine, part Sa: copy. -/
set_option linter.unusedVariables false
set_option linter.unusedSimpArgs false
namespace Go.X
open Go.RowKit
section
variable {P : Program} {cx : Cx} {φ φ' : Phi} {ι ι' : Nat → Value} {w w' : World} {H : List Ob} {n : Nat} {r : RV} {H' : List Ob} {n' : Nat}
/-- The first elements of a source. -/
structure First (P : Program) (φ : Phi) (w : World) (t : Ty) (ys : List t.den) (x : Value) (q : Nat) (news : List Value) : Prop where
  len : ∀ w, (Builtin.lenOf x).run P w = .ok ys.length w
  chunks : Chunks (CR φ w t) (ys.take q) news
  cells : (Builtin.firstCells t.size (Nat.min ys.length q) x).run P w = .ok news.toArray w
theorem Readable.first {t : Ty} {ys : List t.den} {v : Value} (h : Readable φ w t ys v) (q : Nat) : ∃ news, First P φ w t ys v q news := by
  obtain ⟨A, c, news, rfl, hc, hk, hh⟩ := h
  have hk2 := hk.take (fun x c => CR.len t x c) q
  have hl2 := hk2.len (fun x c => CR.len t x c)
  refine ⟨_, fun w => by simp [Builtin.lenOf], hk2, ?_⟩
  have hmin : (ys.take q).length = Nat.min ys.length q := by rw [List.length_take, Nat.min_comm]
  rw [hmin] at hl2
  rcases hh with hh | ⟨b, o, rfl, hcell⟩
  · have : ys = [] := List.eq_nil_of_length_eq_zero hh
    subst this
    simp only [Chunks] at hk
    subst hk
    cases A with
    | none => simp [Builtin.firstCells]
    | some a => exact run_firstCells_some (P := P) w t.size _ a 0 c _ hl2 (by simp)
  · exact run_firstCells_some (P := P) w t.size _ _ ys.length c _ hl2 (fun j u hj => by
      rw [addr_add]
      refine hcell j u ?_
      have hlt : j < (news.take (q * t.size)).length := (List.getElem?_eq_some_iff.1 hj).1
      rw [List.length_take] at hlt
      rwa [List.getElem?_take_of_lt (by omega)] at hj)
theorem string_first (s : List UInt8) (q : Nat) : First P φ w (.int .u8) (bytesOfS s) (.string ⟨⟨s⟩⟩) q ((s.take q).map fun b => .int .u8 (b.toNat : Int)) := by
  have hsz : (⟨⟨s⟩⟩ : ByteArray).size = s.length := rfl
  refine ⟨fun w => by simp [Builtin.lenOf, bytesOfS, hsz], ?_, ?_⟩
  · have e : (bytesOfS s).take q = bytesOfS (s.take q) := by simp [bytesOfS, List.map_take]
    rw [e]
    exact (string_source (P := P) (φ := φ) (w := w) (s.take q)).chunks
  · unfold Builtin.firstCells
    simp only [Sem.run_pure]
    congr 1
    apply Array.ext'
    have hl : (bytesOfS s).length = s.length := by simp [bytesOfS]
    rw [hl]
    simp only [ByteArray.data_extract, Array.toList_map, Array.toList_extract, List.extract_eq_take_drop, List.drop_zero, Nat.sub_zero]
    congr 1
    rw [show s.length.min q = min s.length q from rfl, Nat.min_def]
    split
    · rw [List.take_of_length_le (Nat.le_refl _), List.take_of_length_le (by omega)]
    · rfl
theorem first_of {d : DV} {vx : Value} {t : Ty} {ys : List t.den} (x : RV) (q : Nat) (hd : d.t.cast? (.list t) d.x = some ys) (h : (∃ s, vx = .string ⟨⟨s⟩⟩ ∧ d = ⟨.list (.int .u8), bytesOfS s⟩ ∧ x.isStr = true) ∨ ∀ t xs, d = ⟨.list t, xs⟩ → Readable φ w t xs vx) :
    ∃ news, First P φ w t ys vx q news := by
  obtain ⟨u, z⟩ := d
  obtain ⟨e, rfl⟩ := cast_some hd
  simp only at e
  subst e
  rcases h with ⟨s, rfl, h, _⟩ | h
  · injection h with h1 h2
    injection h1 with h1
    subst h1
    obtain rfl := eq_of_heq h2
    exact ⟨_, string_first s q⟩
  · exact (h t _ rfl).first q
theorem copy_arr [Env] {T T2 ty e : TypeId} {t : Ty} {bytes : Nat} (hd : P.underlying T = some (.slice e)) (hel : elemOk P e t bytes) (h : HRel φ ι w H) {o : Nat} {e0 : TypeId} {xs : List t.den} (ho : getOb H o = .arr e0 t xs false) {A : Option Addr} {m c : Nat} (hv : ι o = .slice A m c) {lo hi' : Nat} (h1 : lo ≤ hi') (h2 : hi' ≤ xs.length)
    {A' : Option Addr} {c' : Nat} (hA : hi' - lo ≠ 0 → A' = A.map (·.add (lo * t.size))) {ys : List t.den} {vx : Value} {news : List Value} (hf : First P φ w t ys vx (hi' - lo) news) :
    Yld φ ι w H n (.dat (.int .i64) ((ys.take (hi' - lo)).length : Int)) (putOb H o (.arr e0 t (xs.take lo ++ ys.take (hi' - lo) ++ xs.drop (lo + (ys.take (hi' - lo)).length)) false)) n ((Builtin.copy_ #[T, T2] ty #[.slice A' (hi' - lo) c', vx]).run P w) := by
  have hty : (ys.take (hi' - lo)).length = Nat.min ys.length (hi' - lo) := by rw [List.length_take, Nat.min_comm]
  have hle : (ys.take (hi' - lo)).length ≤ hi' - lo := by rw [List.length_take]; omega
  obtain ⟨w1, k1, k2, k3, k4, k5, k6⟩ := writeArr (P := P) (n := n) (k := lo) (A' := A') h ho hv hf.chunks (by omega) (fun hne => hA (by omega))
  obtain ⟨ei, z, g1, g2, g3, g4, g5, g6, g7, g8⟩ := hel
  refine ⟨_, w1, φ, ι, ?_, k3, k4, k5, k6, rel_dat (VR.int.2 rfl), by simp [RV.ids]⟩
  unfold Builtin.copy_
  simp only [List.getElem?_toArray, List.getElem?_cons_zero, List.getElem?_cons_succ, Sem.run_bind, run_underlying hd, Result.andThen_ok, Sem.run_pure, hf.len]
  have hsz : ∀ w, (sizeOf e).run P w = .ok t.size w := fun w => by simp [sizeOf, typeInfo, g1, g2]
  rw [hsz]
  simp only [Result.andThen_ok]
  rw [hf.cells]
  simp only [Result.andThen_ok]
  rw [hty]
  cases A' with
  | none => simp [k2 rfl, goInt]
  | some a => simp [k1 a rfl, goInt]
theorem copyAct_sound [Env] (tab : TabOK P cx) {T T2 ty : TypeId} {d x : RV} (e : (copyAct cx T d x).go H n = some (r, H', n')) (h : HRel φ ι w H) {v vx : Value} (hd : d.rel φ ι w v) (hx : x.rel φ ι w vx)
    (ls : ∀ i ∈ d.ids, (getOb H i).live = true) (lx : ∀ i ∈ x.ids, (getOb H i).live = true) :
    Yld φ ι w H n r H' n' ((Builtin.copy_ #[T, T2] ty #[v, vx]).run P w) := by
  unfold copyAct at e
  split at e
  · rename_i t o
    have q := go_bif e; clear e; obtain ⟨hT, e⟩ := q
    obtain ⟨i, hi, ht⟩ := isTy_of hT
    obtain ⟨hd0, hel⟩ := list_desc tab hi ht
    obtain ⟨dv, H1, n1, e1, e2⟩ := HM.go_bind_some e
    clear e
    obtain ⟨rfl, φ1, g1, hel1⟩ := elems_sound e1 h hx lx
    refine Yld.after g1 ?_
    have hd1 := RV.rel_step g1.step g1.keep ls hd
    simp only [HM.go] at e2
    split at e2
    · rename_i e0 u xs fz ho
      obtain ⟨ys, H2, n2, e3, e4⟩ := HM.go_bind_some e2
      clear e2
      obtain ⟨hcast, rfl, rfl⟩ := go_opt e3
      have q := go_bif e4; clear e4; obtain ⟨hb, e4⟩ := q
      simp only [Bool.and_eq_true, decide_eq_true_eq, Bool.not_eq_true'] at hb
      obtain ⟨rfl, rfl⟩ := hb
      simp only [HM.go, Option.some.injEq, Prod.mk.injEq] at e4
      obtain ⟨rfl, rfl, rfl⟩ := e4
      obtain ⟨rfl, A, m, c, hv⟩ := hd1
      have hro := g1.rel.obj o
      rw [ho] at hro
      obtain ⟨A2, m2, c2, q1, q2, q3, q4, hh⟩ := hro
      rw [hv] at q1
      obtain ⟨rfl, rfl, rfl⟩ := slice_inj q1
      subst q2
      obtain ⟨news, hf⟩ := first_of (P := P) x xs.length hcast hel1
      have := copy_arr (n := n2) (ty := ty) (T2 := T2) hd0 hel g1.rel ho hv (lo := 0) (hi' := xs.length) (A' := A) (c' := c) (Nat.zero_le _) (Nat.le_refl _) (fun hne => by
        rcases hh with hh | ⟨b, pre, cur, fr, rfl, _⟩
        · omega
        · simp [addr_add]) hf
      rw [hv]
      simpa using this
    · simp [HM.go] at e2
  · rename_i t o lo hi'
    have q := go_bif e; clear e; obtain ⟨hT, e⟩ := q
    obtain ⟨i, hi, ht⟩ := isTy_of hT
    obtain ⟨hd0, hel⟩ := list_desc tab hi ht
    obtain ⟨dv, H1, n1, e1, e2⟩ := HM.go_bind_some e
    clear e
    obtain ⟨rfl, φ1, g1, hel1⟩ := elems_sound e1 h hx lx
    refine Yld.after g1 ?_
    have hd1 := RV.rel_step g1.step g1.keep ls hd
    simp only [HM.go] at e2
    split at e2
    · rename_i e0 u xs fz ho
      obtain ⟨ys, H2, n2, e3, e4⟩ := HM.go_bind_some e2
      clear e2
      obtain ⟨hcast, rfl, rfl⟩ := go_opt e3
      have q := go_bif e4; clear e4; obtain ⟨hb, e4⟩ := q
      simp only [Bool.and_eq_true, decide_eq_true_eq, Bool.not_eq_true'] at hb
      obtain ⟨rfl, rfl⟩ := hb
      simp only [HM.go, Option.some.injEq, Prod.mk.injEq] at e4
      obtain ⟨rfl, rfl, rfl⟩ := e4
      obtain ⟨A, m, c, A', hv, h1, h2, h3, rfl, hA, hB⟩ := hd1
      have hro := g1.rel.obj o
      rw [ho] at hro
      obtain ⟨A2, m2, c2, q1, q2, q3, q4, hh⟩ := hro
      rw [hv] at q1
      obtain ⟨rfl, rfl, rfl⟩ := slice_inj q1
      obtain ⟨news, hf⟩ := first_of (P := P) x (hi' - lo) hcast hel1
      exact copy_arr (n := n2) (ty := ty) (T2 := T2) hd0 hel g1.rel ho hv h1 (by omega) (fun hne => hA (by omega)) hf
    · simp [HM.go] at e2
  · simp [HM.go] at e
end
end Go.X
/- The engine, part T: stores. -/
set_option linter.unusedVariables false
set_option linter.unusedSimpArgs false
namespace Go.X
open Go.RowKit

theorem splice {α : Type} (L vs : List α) (a off k s N : Nat) (h1 : off + k ≤ s) (h2 : a + s ≤ N) (h3 : N ≤ L.length) (hv : vs.length = k) :
    (L.take (a + off) ++ vs ++ L.drop (a + off + k)).take N = (L.take N).take a ++ (((((L.take N).drop a).take s).take off) ++ vs ++ ((((L.take N).drop a).take s).drop (off + k))) ++ (L.take N).drop (a + s) := by
  apply List.ext_getElem?
  intro j
  simp only [List.getElem?_append, List.getElem?_take, List.getElem?_drop, List.length_append, List.length_take, List.length_drop]
  grind
section
variable {P : Program} {cx : Cx} {φ φ' : Phi} {ι ι' : Nat → Value} {w w' : World} {H : List Ob} {n : Nat} {r : RV} {H' : List Ob} {n' : Nat}
theorem setAt_cells {d : DV} {vs : List Value} (hd : CR φ w d.t d.x vs) : ∀ (t : Ty) (p : List Nat) (x y : t.den) (cs : List Value), t.setAt x p d = some y → CR φ w t x cs → t.at_ p = some d.t ∧ CR φ w t y (cs.take (t.offAt p) ++ vs ++ cs.drop (t.offAt p + d.t.size))
  | t, [], x, y, cs, hs, hc => by
    have hs' : d.t.cast? t d.x = some y := by cases t <;> exact hs
    obtain ⟨e, rfl⟩ := cast_some hs'
    obtain ⟨u, z⟩ := d
    simp only at e
    subst e
    refine ⟨rfl, ?_⟩
    simp only [Ty.offAt, List.take_zero, List.nil_append, Nat.zero_add]
    rw [List.drop_of_length_le (by rw [hc.len]; exact Nat.le_refl _), List.append_nil]
    exact hd
  | .pair a b, 0 :: p, x, y, cs, hs, hc => by
    obtain ⟨c1, c2, rfl, h1, h2⟩ := hc
    simp only [Ty.setAt] at hs
    obtain ⟨z, hz, rfl⟩ := Option.map_eq_some_iff.1 hs
    obtain ⟨k1, k2⟩ := setAt_cells hd a p x.1 z c1 hz h1
    have hle := at_offs k1
    have hl := h1.len
    refine ⟨by simp [Ty.at_, Ty.nth, k1], _, c2, ?_, k2, h2⟩
    have e1 : (Ty.pair a b).offAt (0 :: p) = a.offAt p := by simp [Ty.offAt, Ty.offs, Ty.nth]
    rw [e1, List.take_append_of_le_length (by omega), List.drop_append_of_le_length (by omega)]
    simp
  | .pair a b, (i + 1) :: p, x, y, cs, hs, hc => by
    obtain ⟨c1, c2, rfl, h1, h2⟩ := hc
    simp only [Ty.setAt] at hs
    obtain ⟨z, hz, rfl⟩ := Option.map_eq_some_iff.1 hs
    obtain ⟨k1, k2⟩ := setAt_cells hd b (i :: p) x.2 z c2 hz h2
    have hl := h1.len
    refine ⟨by simpa [Ty.at_, Ty.nth] using k1, c1, _, ?_, h1, k2⟩
    have e1 : (Ty.pair a b).offAt ((i + 1) :: p) = c1.length + b.offAt (i :: p) := by simp [Ty.offAt, Ty.offs, Ty.nth, hl, Nat.add_assoc]
    rw [e1, List.take_length_add_append, Nat.add_assoc, ← List.drop_drop, List.drop_left]
    simp
  | .bool, _ :: _, x, y, cs, hs, hc => by simp [Ty.setAt] at hs
  | .int _, _ :: _, x, y, cs, hs, hc => by simp [Ty.setAt] at hs
  | .str, _ :: _, x, y, cs, hs, hc => by simp [Ty.setAt] at hs
  | .opq, _ :: _, x, y, cs, hs, hc => by simp [Ty.setAt] at hs
  | .unit, _ :: _, x, y, cs, hs, hc => by simp [Ty.setAt] at hs
  | .list _, _ :: _, x, y, cs, hs, hc => by simp [Ty.setAt] at hs
theorem parts_rel : ∀ (u : Ty) (z : u.den) (cs : List Value), u.chain = true → CR φ w u z cs →
    RV.relL φ ι w ((u.parts z).map fun d => RV.dat d.t d.x) cs ∧ RV.fitsL ((u.parts z).map fun d => RV.dat d.t d.x) u = true ∧ RV.idsL ((u.parts z).map fun d => RV.dat d.t d.x) = []
  | .unit, z, cs, _, h => ⟨h, by simp [Ty.parts, RV.fitsL], rfl⟩
  | .pair a b, z, cs, hc, ⟨c1, c2, e, h1, h2⟩ => by
    obtain ⟨k1, k2, k3⟩ := parts_rel b z.2 c2 hc h2
    obtain ⟨l1, l2⟩ := VR.of h1
    refine ⟨⟨_, c2, by rw [l2]; exact e, rel_dat l1, k1⟩, ?_, ?_⟩
    · simp only [Ty.parts, List.map_cons, RV.fitsL, RV.fits, k2]; simp
    · simp only [Ty.parts, List.map_cons, RV.idsL, RV.ids, k3]; rfl
  | .bool, _, _, h, _ => by simp [Ty.chain] at h
  | .int _, _, _, h, _ => by simp [Ty.chain] at h
  | .str, _, _, h, _ => by simp [Ty.chain] at h
  | .opq, _, _, h, _ => by simp [Ty.chain] at h
  | .list _, _, _, h, _ => by simp [Ty.chain] at h
theorem chain_agg {u : Ty} (h : u.chain = true) : u.isAgg = true := by cases u <;> first | rfl | (simp [Ty.chain] at h)
theorem open_sound {x : RV} {l : List RV} {t : Ty} {v : Value} (hx : x.rel φ ι w v) (hf : x.fits t = true) (ho : x.open_ = some l) : ∃ cs, v = .agg cs ∧ RV.relL φ ι w l cs.toList ∧ RV.fitsL l t = true ∧ ∀ i ∈ RV.idsL l, i ∈ x.ids := by
  unfold RV.open_ at ho
  split at ho
  · rename_i m
    injection ho with ho
    subst ho
    obtain ⟨cs, rfl, h⟩ := hx
    exact ⟨cs, rfl, h, by simpa [RV.fits] using hf, by simp [RV.ids]⟩
  · rename_i u z
    have e : u = t := by simpa [RV.fits] using hf
    subst e
    by_cases ha : u.chain = true
    · simp only [ha, cond_true, Option.some.injEq] at ho
      subst ho
      obtain ⟨cs, rfl⟩ := agg_of (hx.2.trans (chain_agg ha))
      obtain ⟨k1, k2, k3⟩ := parts_rel (ι := ι) u z cs.toList ha hx.1
      exact ⟨cs, rfl, k1, k2, by rw [k3]; simp⟩
    · simp [ha] at ho
  · cases ho
theorem relL_get : ∀ (l : List RV) (t : Ty) (cs : List Value) (i : Nat) (s : RV), RV.relL φ ι w l cs → RV.fitsL l t = true → l[i]? = some s →
    ∃ u vs, t.nth i = some u ∧ s.rel φ ι w vs ∧ s.fits u = true ∧ vs.cells.toList = (cs.drop (t.offs i)).take u.size ∧ ∀ j ∈ s.ids, j ∈ RV.idsL l
  | [], _, _, _, _, _, _, h => by simp at h
  | a :: l, t, cs, i, s, ⟨v, c2, e, h1, h2⟩, hf, hi => by
    subst e
    cases t with
    | pair p q =>
      simp only [RV.fitsL, Bool.and_eq_true] at hf
      obtain ⟨g1, g2⟩ := RV.rel_fits a p v h1 hf.1
      cases i with
      | zero =>
        simp only [List.getElem?_cons_zero, Option.some.injEq] at hi
        subst hi
        refine ⟨p, v, rfl, h1, hf.1, ?_, fun j hj => by simp [RV.idsL, hj]⟩
        simp only [Ty.offs, List.drop_zero]
        rw [← g1, show v.cells.size = v.cells.toList.length by simp, List.take_left]
      | succ i =>
        obtain ⟨u, vs, k1, k2, k3, k4, k6⟩ := relL_get l q c2 i s h2 hf.2 (by simpa using hi)
        refine ⟨u, vs, k1, k2, k3, ?_, fun j hj => by simp [RV.idsL, k6 j hj]⟩
        simp only [Ty.offs]
        rw [← g1, show v.cells.size = v.cells.toList.length by simp, ← List.drop_drop, List.drop_left]
        exact k4
    | _ => simp [RV.fitsL] at hf
theorem setPath_sound {y : RV} {vy : Value} (hy : y.rel φ ι w vy) : ∀ (p : List Nat) (t u : Ty) (x x' : RV) (v : Value), x.rel φ ι w v → x.fits t = true → RV.setPath p x y = some x' → t.at_ p = some u → y.fits u = true →
    ∃ v', x'.rel φ ι w v' ∧ x'.fits t = true ∧ v'.cells.toList = v.cells.toList.take (t.offAt p) ++ vy.cells.toList ++ v.cells.toList.drop (t.offAt p + u.size) ∧ ∀ i ∈ x'.ids, i ∈ x.ids ∨ i ∈ y.ids
  | [], t, u, x, x', v, hx, hf, hs, ht, hu => by
    simp only [RV.setPath, Option.some.injEq] at hs
    simp only [Ty.at_, Option.some.injEq] at ht
    subst hs ht
    have hl := (RV.rel_fits x t v hx hf).1
    refine ⟨vy, hy, hu, ?_, fun i hi => .inr hi⟩
    simp only [Ty.offAt, List.take_zero, List.nil_append, Nat.zero_add]
    rw [List.drop_of_length_le (by rw [Array.length_toList, hl]; exact Nat.le_refl _), List.append_nil]
  | i :: p, t, u, x, x', v, hx, hf, hs, ht, hu => by
    simp only [RV.setPath] at hs
    split at hs
    · rename_i l ho
      split at hs
      · rename_i s hls
        split at hs
        · rename_i s' hs'
          injection hs with hs
          subst hs
          obtain ⟨cs, rfl, hrl, hfl, hidl⟩ := open_sound hx hf ho
          obtain ⟨e, vs, k1, k2, k3, k4, k5⟩ := relL_get l t cs.toList i s hrl hfl hls
          simp only [Ty.at_, k1] at ht
          obtain ⟨v', m1, m2, m3, m4⟩ := setPath_sound hy p e u s s' vs k2 k3 hs' ht hu
          obtain ⟨q1, q2⟩ := relL_set l t cs.toList i e s' v' hrl hfl k1 m1 m2
          have hle := at_offs ht
          have hle2 := nth_offs k1
          have hcl : cs.toList.length = t.size := (RV.relL_fits l t _ hrl hfl).1
          have hyl : vy.cells.toList.length = u.size := by rw [← (RV.rel_fits y u vy hy hu).1]; simp
          refine ⟨.agg (cs.toList.take (t.offs i) ++ v'.cells.toList ++ cs.toList.drop (t.offs i + e.size)).toArray, rel_agg ⟨_, rfl, by simpa using q1⟩, by simpa [RV.fits] using q2, ?_, ?_⟩
          · have hs := splice cs.toList vy.cells.toList (t.offs i) (e.offAt p) u.size e.size t.size hle hle2 (by rw [hcl]; exact Nat.le_refl _) hyl
            have ht' : cs.toList.take t.size = cs.toList := List.take_of_length_le (by rw [hcl]; exact Nat.le_refl _)
            rw [ht'] at hs
            have hlen : (cs.toList.take (t.offs i + e.offAt p) ++ vy.cells.toList ++ cs.toList.drop (t.offs i + e.offAt p + u.size)).length = t.size := by
              simp only [List.length_append, List.length_take, List.length_drop, hcl, hyl]; omega
            rw [List.take_of_length_le (by rw [hlen]; exact Nat.le_refl _)] at hs
            show cs.toList.take (t.offs i) ++ v'.cells.toList ++ cs.toList.drop (t.offs i + e.size) = cs.toList.take (t.offAt (i :: p)) ++ vy.cells.toList ++ cs.toList.drop (t.offAt (i :: p) + u.size)
            rw [m3, k4]
            simp only [Ty.offAt, k1]
            rw [hs]
          · intro j hj
            have hj' : j ∈ RV.idsL (l.set i s') := by simpa [RV.ids] using hj
            rcases idsL_set l i s' j hj' with h1 | h1
            · exact .inl (hidl j h1)
            · rcases m4 j h1 with h2 | h2
              · exact .inl (hidl j (k5 j h2))
              · exact .inr h2
        · cases hs
      · cases hs
    · cases hs
theorem run_storeVarX (tab : TabOK P cx) {T : TypeId} {ti : TI} (hi : cx.ti T = some ti) {v : Value} (hv : v.cells.size = ti.ty.size) {b o : Nat} {e : TypeId} {fr : Nat × Nat} {cur : Array Value} (hb : w.heap[b]? = some (.cells cur e fr)) (hf : frOk fr cur.size)
    (hle : o + ti.ty.size ≤ cur.size) (h1 : ∀ u ∈ v.cells.toList, u.oneCell' = true) :
    ∃ w', (storeVar T ⟨b, o, none⟩ v).run P w = .ok () w' ∧ w'.heap[b]? = some (.cells (cur.toList.take o ++ v.cells.toList ++ cur.toList.drop (o + ti.ty.size)).toArray e fr) ∧ Wrote w w' b := by
  obtain ⟨w', h2, h3, h4⟩ := run_storeCellsX P o v.cells.toList 0 cur w hb hf (by simp [hv]; exact hle) h1
  refine ⟨w', ?_, ?_, h4⟩
  · unfold storeVar
    simp only [Sem.run_bind, run_sizeOfX tab hi, Result.andThen_ok]
    rw [if_neg (by simp [hv])]
    exact h2
  · rw [h3]; simp [hv]
/-- What a store does: no value; the state behind it. -/
theorem storeAct_sound [Env] (tab : TabOK P cx) {T : TypeId} {a x : RV} (e : (storeAct cx T a x).go H n = some (r, H', n')) (h : HRel φ ι w H) {va vx : Value} (ha : a.rel φ ι w va) (hx : x.rel φ ι w vx)
    (la : ∀ i ∈ a.ids, (getOb H i).live = true) (lx : ∀ i ∈ x.ids, (getOb H i).live = true) :
    r = .undef ∧ ∃ w' φ' ι', (Instr.storeAt T va vx).run P w = .ok () w' ∧ HRel φ' ι' w' H' ∧ Step φ ι w H φ' ι' w' H' ∧ Keep ι H ι' H' ∧ Nx H n H' n' := by
  unfold storeAct at e
  split at e
  · rename_i o s i p
    have q := go_bif e; clear e; obtain ⟨hT, e⟩ := q
    obtain ⟨ti, hti, hat⟩ := isTyO_of hT
    simp only [HM.go] at e
    split at e
    · obtain ⟨d, H1, n1, e1, e2⟩ := HM.go_bind_some e
      clear e
      obtain ⟨rfl, φ1, g1, hv⟩ := toDat_sound x φ vx H n d H1 n1 e1 h hx lx
      have ha1 := RV.rel_step g1.step g1.keep la ha
      simp only [HM.go] at e2
      split at e2
      · rename_i e0 t xs fz ho
        have q := go_bif e2; clear e2; obtain ⟨hb, e2⟩ := q
        simp only [Bool.and_eq_true, decide_eq_true_eq, Bool.not_eq_true'] at hb
        obtain ⟨⟨rfl, rfl⟩, hTd⟩ := hb
        obtain ⟨ti', hti', htd⟩ := isTy_of hTd
        rw [hti] at hti'
        injection hti' with hti'
        subst hti'
        obtain ⟨y, H2, n2, e3, e4⟩ := HM.go_bind_some e2
        clear e2
        obtain ⟨hset, rfl, rfl⟩ := go_opt e3
        simp only [HM.go, Option.some.injEq, Prod.mk.injEq] at e4
        obtain ⟨rfl, rfl, rfl⟩ := e4
        obtain ⟨b, cur0, fr, k0, rfl, q1, q2, q3, q4, q5, q6, q7, hk0⟩ := ptr_arr g1.rel ho ha1
        have hro := g1.rel.obj o
        rw [ho] at hro
        obtain ⟨m, c, pre, cur, fr', z1, z2, z3, z4, z5, z6, z7, z8, z0, z9, z10, z11, z12⟩ := hro.blk_arr q6
        rw [q1] at z6
        injection z6 with z6
        injection z6 with z6 _ z6'
        subst z6 z6'
        have hk1 : k0 = pre.size := by rw [← hk0, z1]; rfl
        subst hk1
        rw [pre_drop] at q7
        rw [Array.size_append] at q5
        obtain ⟨k1, k2⟩ := setAt_cells hv.1 s p _ y _ hset q7
        have hvs : vx.cells.toList.length = d.t.size := hv.1.len
        have hle := at_offs k1
        have hcl : (i + 1) * s.size = i * s.size + s.size := by rw [Nat.add_mul, Nat.one_mul]
        obtain ⟨w', r1, r2, r3⟩ := run_storeVarX (w := w) tab hti (v := vx) (b := b) (o := pre.size + i * s.size + s.offAt p) (by rw [htd]; simpa using hvs) q1 q2 (by rw [htd, Array.size_append]; omega) (hv.1.one _ _ _)
        have hphi : ∀ k, ¬ φ1 b k := fun k hk => by have := (z11 k hk).1; cases this
        have hnm : m * s.size ≤ cur.size := by rw [z7]; exact Nat.mul_le_mul_right _ z3
        have him : (i + 1) * s.size ≤ m * s.size := Nat.mul_le_mul_right _ (by omega)
        rw [htd, Nat.add_assoc pre.size (i * s.size) (s.offAt p), splice_pre] at r2
        have hsz : ((cur.toList.take (i * s.size + s.offAt p) ++ vx.cells.toList ++ cur.toList.drop (i * s.size + s.offAt p + d.t.size)).toArray).size = cur.size := by
          simp only [List.size_toArray, List.length_append, List.length_take, List.length_drop, Array.length_toList, hvs]; omega
        have hcell : ∀ b' k, φ1 b' k → w'.cell? ⟨b', k, none⟩ = w.cell? ⟨b', k, none⟩ := fun b' k hk => r3.cell (fun e => hphi k (e ▸ hk))
        have hone : ∀ v ∈ (cur.toList.take (i * s.size + s.offAt p) ++ vx.cells.toList ++ cur.toList.drop (i * s.size + s.offAt p + d.t.size)).toArray.toList, v.oneCell' = true := by
          intro v hv'
          simp only [List.mem_append] at hv'
          rcases hv' with (hv' | hv') | hv'
          · exact z9 v (List.mem_of_mem_take hv')
          · exact hv.1.one _ _ _ v hv'
          · exact z9 v (List.mem_of_mem_drop hv')
        have hchs : Chunks (CR φ1 w' s) (xs.set i y) ((cur.toList.take (i * s.size + s.offAt p) ++ vx.cells.toList ++ cur.toList.drop (i * s.size + s.offAt p + d.t.size)).toArray.toList.take (m * s.size)) := by
          have hsp := splice cur.toList vx.cells.toList (i * s.size) (s.offAt p) d.t.size s.size (m * s.size) hle (by omega) (by simpa using hnm) hvs
          show Chunks _ _ (List.take _ (cur.toList.take (i * s.size + s.offAt p) ++ vx.cells.toList ++ cur.toList.drop (i * s.size + s.offAt p + d.t.size)))
          rw [hsp]
          have e9 : ((cur.toList.take (m * s.size)).drop (i * s.size)).take s.size = (cur.toList.drop (i * s.size)).take s.size := by
            rw [List.drop_take, List.take_take, Nat.min_eq_left (by omega)]
          rw [← e9] at k2
          exact (Chunks.set (fun x c => CR.len s x c) xs (cur.toList.take (m * s.size)) z10 i y _ q4 k2).imp fun x c => CR.mono (fun _ _ h => h) hcell s x c
        have hrest : s = .int .u8 ∨ ∃ zs : List s.den, Chunks (CR φ1 w' s) zs ((cur.toList.take (i * s.size + s.offAt p) ++ vx.cells.toList ++ cur.toList.drop (i * s.size + s.offAt p + d.t.size)).toArray.toList.drop (m * s.size)) := by
          have e6 : ((cur.toList.take (i * s.size + s.offAt p) ++ vx.cells.toList ++ cur.toList.drop (i * s.size + s.offAt p + d.t.size)).toArray).toList.drop (m * s.size) = cur.toList.drop (m * s.size) := by
            rw [← hvs]
            exact splice_drop (by rw [Array.length_toList]; omega) (by omega)
          rw [e6]
          exact z9.rest.imp id fun ⟨zs, hz⟩ => ⟨zs, hz.imp fun x c => CR.mono (fun _ _ h => h) hcell s x c⟩
        have hob : ORel φ1 ι w' o (.arr e0 s (xs.set i y) false) :=
          ⟨some ⟨b, pre.size, none⟩, m, c, z1, by simpa using z2, z3, z4, .inr ⟨b, pre, _, fr, rfl, r2, by rw [hsz, z7], by rw [hsz]; exact z8, z0, ⟨hone, hrest⟩, hchs, fun k hk => absurd hk (hphi k), fun hz => by cases hz⟩⟩
        obtain ⟨u1, u2, u3, u4⟩ := modOb (n := n2) (ob := .arr e0 s (xs.set i y) false) g1.rel (by rw [ho]; rfl) q6 r3 hphi hob (by simp [Ob.ids]) rfl
        exact ⟨rfl, w', φ1, ι, by simp [Instr.storeAt, Instr.sureAddr, r1], u1, g1.step.trans u2, g1.keep.trans u3, (g1.nx _).trans u4⟩
      · simp [HM.go] at e2
    · obtain ⟨y, H1, n1, e1, e2⟩ := HM.go_bind_some e
      clear e
      obtain ⟨rfl, φ1, g1, hv, lv⟩ := boxed_sound e1 h hx lx
      have ha1 := RV.rel_step g1.step g1.keep la ha
      simp only [HM.go] at e2
      split at e2
      · rename_i U t z ho
        have q := go_bif e2; clear e2; obtain ⟨hb, e2⟩ := q
        have hb : s = t := by simpa using hb
        subst hb
        rw [hat] at e2
        simp only at e2
        have q := go_bif e2; clear e2; obtain ⟨hfit, e2⟩ := q
        obtain ⟨z', H2, n2, e3, e4⟩ := HM.go_bind_some e2
        clear e2
        obtain ⟨hset, rfl, rfl⟩ := go_opt e3
        simp only [HM.go, Option.some.injEq, Prod.mk.injEq] at e4
        obtain ⟨rfl, rfl, rfl⟩ := e4
        obtain ⟨b, cur, fr, u, rfl, q1, q2, q3, q4, q5, rfl, q7, q8⟩ := ptr_box g1.rel ho ha1
        obtain ⟨u', m1, m2, m3, m4⟩ := setPath_sound hv p s ti.ty z z' u q5 q7 hset hat hfit
        have hvl : vx.cells.size = ti.ty.size := (RV.rel_fits y ti.ty vx hv hfit).1
        have hle := at_offs hat
        obtain ⟨w', r1, r2, r3⟩ := run_storeVarX (w := w) tab hti (v := vx) (b := b) (o := s.offAt p) hvl q1 q3 (by omega) (RV.rel_one y ti.ty vx hv hfit)
        have hro := g1.rel.obj o
        rw [ho] at hro
        have hphi : ∀ k, ¬ φ1 b k := by
          obtain ⟨b', _, _, _, y1, _, _, _, _, _, _, _, y8⟩ := hro
          rw [y1] at q8
          have : b' = b := by simpa [blk] using q8
          subst this
          exact y8
        have hcell : ∀ b' k, φ1 b' k → w'.cell? ⟨b', k, none⟩ = w.cell? ⟨b', k, none⟩ := fun b' k hk => r3.cell (fun e => hphi k (e ▸ hk))
        have hu' : u'.cells = (u.cells.toList.take (s.offAt p) ++ vx.cells.toList ++ u.cells.toList.drop (s.offAt p + ti.ty.size)).toArray := by
          apply Array.ext'
          rw [m3]
        have hus := (RV.rel_fits z' s u' m1 m2).1
        obtain ⟨x1, x2, x3, x4⟩ := modOb (n := n2) (ob := .box U s z') g1.rel (by rw [ho]; rfl) q8 r3 hphi
          ⟨b, u'.cells, fr, u', by
            obtain ⟨b', _, _, _, y1, _⟩ := hro
            rw [y1] at q8 ⊢
            have : b' = b := by simpa [blk] using q8
            rw [this], by rw [r2, hu'], hus, by rw [hus, ← q2]; exact q3, RV.rel_one z' s u' m1 m2, RV.rel_mono (fun _ _ h => h) hcell z' u' (fun _ _ => rfl) m1, rfl, m2, hphi⟩
          (fun j hj => by
            rcases m4 j hj with h1 | h1
            · exact g1.rel.idsB o _ _ _ ho j h1
            · exact lv j h1) rfl
        exact ⟨rfl, w', φ1, ι, by simp [Instr.storeAt, Instr.sureAddr, r1], x1, g1.step.trans x2, g1.keep.trans x3, (g1.nx _).trans x4⟩
      · simp [HM.go] at e2
    · simp [HM.go] at e
  · simp [HM.go] at e
end
end Go.X
/- The engine, part U: lengths, literals of slices, conversions, min and max. -/
set_option linter.unusedVariables false
set_option linter.unusedSimpArgs false
namespace Go.X
open Go.RowKit

section
variable {P : Program} {cx : Cx} {φ φ' : Phi} {ι ι' : Nat → Value} {w w' : World} {H : List Ob} {n : Nat} {r : RV} {H' : List Ob} {n' : Nat}
/-- A slice's or a string's length, as the machine tells it. -/
def HasLen (x : RV) (v : Value) (m : Nat) : Prop := if x.isStr then ∃ s, v = .string ⟨⟨s⟩⟩ ∧ s.length = m else ∃ A c, v = .slice A m c
theorem lenOf_sound [Env] {x : RV} {m : Nat} {v : Value} (e : (lenOf x).go H n = some (m, H', n')) (h : HRel φ ι w H) (hx : x.rel φ ι w v) : H' = H ∧ n' = n ∧ HasLen x v m := by
  unfold lenOf at e
  split at e
  · obtain ⟨rfl, rfl, rfl⟩ := go_ret e
    obtain ⟨A, m, c, rfl, hl, _⟩ := VR.list hx
    exact ⟨rfl, rfl, by simp only [HasLen, RV.isStr, Bool.false_eq_true, if_false]; exact ⟨A, c, by rw [hl]⟩⟩
  · obtain ⟨rfl, rfl, rfl⟩ := go_ret e
    obtain rfl := VR.str.1 hx
    exact ⟨rfl, rfl, by simp only [HasLen, RV.isStr, if_true]; exact ⟨_, rfl, rfl⟩⟩
  · obtain ⟨rfl, rfl, rfl⟩ := go_ret e
    obtain ⟨A, m, rfl, hc⟩ := hx
    obtain ⟨A2, m2, c2, e1, hl, _⟩ := hc
    injection e1 with e1 _
    obtain ⟨rfl, rfl, rfl⟩ := slice_inj e1
    exact ⟨rfl, rfl, by simp only [HasLen, RV.isStr, Bool.false_eq_true, if_false]; exact ⟨A, m, by rw [hl]⟩⟩
  · obtain ⟨rfl, rfl, rfl⟩ := go_ret e
    simp only [RV.rel] at hx
    subst hx
    exact ⟨rfl, rfl, by simp only [HasLen, RV.isStr, Bool.false_eq_true, if_false]; exact ⟨_, _, rfl⟩⟩
  · rename_i t o
    simp only [HM.go] at e
    split at e
    · rename_i e0 u xs fz hm
      obtain ⟨fz', ho, rfl⟩ := mask_arr hm
      obtain ⟨rfl, rfl, rfl⟩ := go_ret e
      obtain ⟨rfl, A, m, c, hv⟩ := hx
      have hro := h.obj o
      rw [ho] at hro
      obtain ⟨A2, n', c', e1, e2, _⟩ := hro
      rw [hv] at e1
      obtain ⟨rfl, rfl, rfl⟩ := slice_inj e1
      exact ⟨rfl, rfl, by simp only [HasLen, RV.isStr, Bool.false_eq_true, if_false]; exact ⟨A, c, by rw [hv, e2]⟩⟩
    · simp [HM.go] at e
  · obtain ⟨rfl, rfl, rfl⟩ := go_ret e
    obtain ⟨A, m, c, A', hv, h1, h2, h3, rfl, hA, _⟩ := hx
    exact ⟨rfl, rfl, by simp only [HasLen, RV.isStr, Bool.false_eq_true, if_false]; exact ⟨A', _, rfl⟩⟩
  · simp [HM.go] at e
theorem lenAct_sound [Env] (tab : TabOK P cx) {T ty : TypeId} {x : RV} {vx : Value} (e : (bif srcTy cx T && (isStrTy cx T == x.isStr) then (lenOf x).bind fun n => HM.ret (.dat (.int .i64) (n : Int)) else .fail).go H n = some (r, H', n')) (h : HRel φ ι w H) (hx : x.rel φ ι w vx) :
    Yld φ ι w H n r H' n' ((Builtin.len_ #[T] ty #[vx]).run P w) := by
  have q := go_bif e; clear e; obtain ⟨hb, e⟩ := q
  simp only [Bool.and_eq_true, beq_iff_eq] at hb
  obtain ⟨hb1, hb2⟩ := hb
  obtain ⟨m, H1, n1, e1, e2⟩ := HM.go_bind_some e
  obtain ⟨rfl, rfl, hl⟩ := lenOf_sound e1 h hx
  obtain ⟨rfl, rfl, rfl⟩ := go_ret e2
  refine Yld.plain h (Plain.int _ _) ?_
  unfold srcTy at hb1
  unfold isStrTy at hb2
  split at hb1
  · rename_i j hj
    rw [hj] at hb2
    simp only at hb2
    split at hb1
    · rename_i t ht
      rw [ht] at hb2
      have : x.isStr = false := by rw [← hb2]; simp
      simp only [HasLen, this, Bool.false_eq_true, if_false] at hl
      obtain ⟨A, c, rfl⟩ := hl
      have hd := (list_desc tab hj ht).1
      simp [Builtin.len_, run_underlying hd, goInt]
    · rename_i ht
      rw [ht] at hb2
      have : x.isStr = true := by rw [← hb2]; simp
      simp only [HasLen, this, if_true] at hl
      obtain ⟨s, rfl, rfl⟩ := hl
      have hd := str_desc tab hj ht
      have hs : (⟨⟨s⟩⟩ : ByteArray).size = s.length := rfl
      simp [Builtin.len_, run_underlying hd, goInt, hs]
    · cases hb1
  · cases hb1
theorem minmax_sound {mx : Bool} : ∀ (l : List RV) (x : RV) (vs : List Value) (v : Value) (r : RV), (minmax mx x l).go H n = some (r, H', n') → RV.relT φ ι w l vs → x.rel φ ι w v → (∀ i ∈ x.ids, (getOb H i).live = true) →
    H' = H ∧ n' = n ∧ ∃ u, (vs.foldlM (if mx then Builtin.max2 else Builtin.min2) v).run P w = .ok u w ∧ r.rel φ ι w u ∧ ∀ i ∈ r.ids, (getOb H i).live = true
  | [], x, vs, v, r, e, hl, hx, lx => by
    have e' : (HM.ret x).go H n = some (r, H', n') := by
      cases x <;> exact e
    obtain ⟨rfl, rfl, rfl⟩ := go_ret e'
    simp only [RV.relT] at hl
    subst hl
    exact ⟨rfl, rfl, v, by simp, hx, lx⟩
  | y :: l, x, vs, v, r, e, hl, hx, lx => by
    obtain ⟨vy, vs', rfl, hy, hl⟩ := hl
    unfold minmax at e
    split at e
    · rename_i heq; cases heq
    · rename_i k a k' b l' heq
      injection heq with h1 h2
      subst h1 h2
      have q := go_bif e; clear e; obtain ⟨hk, e⟩ := q
      have hk : k = k' := by simpa using hk
      subst hk
      obtain rfl := VR.int.1 hx
      obtain rfl := VR.int.1 hy
      obtain ⟨h1, h2, u, hu, hr, lr⟩ := minmax_sound l _ vs' (.int k (if (if mx then a < b else b < a) then b else a)) r e hl (rel_dat (VR.int.2 rfl)) (by simp [RV.ids])
      refine ⟨h1, h2, u, ?_, hr, lr⟩
      rw [List.foldlM_cons]
      cases mx
      · simp only [Bool.false_eq_true, if_false] at hu ⊢
        simp only [Builtin.min2, Sem.run_bind, Sem.run_pure, Result.andThen_ok]
        exact hu
      · simp only [if_true] at hu ⊢
        simp only [Builtin.max2, Sem.run_bind, Sem.run_pure, Result.andThen_ok, gt_iff_lt]
        exact hu
    · rename_i a b l' heq
      injection heq with h1 h2
      subst h1 h2
      obtain rfl := VR.str.1 hx
      obtain rfl := VR.str.1 hy
      obtain ⟨h1, h2, u, hu, hr, lr⟩ := minmax_sound l _ vs' (.string ⟨⟨bif (bif mx then !(Op.bytesLess a b) else (Op.bytesLess a b || decide (a = b))) then a else b⟩⟩) r e hl (rel_dat (VR.str.2 rfl)) (by simp [RV.ids])
      refine ⟨h1, h2, u, ?_, hr, lr⟩
      rw [List.foldlM_cons]
      cases mx
      · simp only [Bool.false_eq_true, if_false, cond_false] at hu ⊢
        simp only [Builtin.min2, Op.stringOp, toList_mk, beq_dec, Sem.run_bind, Sem.run_pure, Result.andThen_ok, asBool]
        cases hb : (Op.bytesLess a b || decide (a = b)) <;> simp only [hb, cond_true, cond_false] at hu <;> simpa using hu
      · simp only [if_true, cond_true] at hu ⊢
        simp only [Builtin.max2, Op.stringOp, toList_mk, beq_dec, Sem.run_bind, Sem.run_pure, Result.andThen_ok, asBool]
        cases hb : (Op.bytesLess a b) <;> simp only [hb, Bool.not_true, Bool.not_false, cond_true, cond_false] at hu <;> simpa using hu
    · simp [HM.go] at e
end
end Go.X
/- The engine, part V: conversions and literals of slices. -/
set_option linter.unusedVariables false
set_option linter.unusedSimpArgs false
namespace Go.X
open Go.RowKit

section
variable {P : Program} {cx : Cx} {φ φ' : Phi} {ι ι' : Nat → Value} {w w' : World} {H : List Ob} {n : Nat} {r : RV} {H' : List Ob} {n' : Nat}
theorem bytes_new (w : World) (e : TypeId) (s : List UInt8) (hs : s.length ≤ roomMax) :
    ∃ cur fr, Grew w (Lib.bytesWorld w e ⟨⟨s⟩⟩) ∧ (Lib.bytesWorld w e ⟨⟨s⟩⟩).heap[w.heap.size]? = some (.cells cur e fr) ∧ cur.size = grownCap w s.length 0 e ∧ frOk fr cur.size ∧ (∀ v ∈ cur.toList, v.oneCell' = true) ∧
      cur.toList.take s.length = s.map fun b => Value.int .u8 (b.toNat : Int) := by
  have hge := grownCap_ge w s.length 0 e
  have hc : Lib.bytesCells w e ⟨⟨s⟩⟩ = (⟨s⟩ : Array UInt8).map (fun b => Value.int .u8 (b.toNat : Int)) ++ Array.replicate (grownCap w s.length 0 e - s.length) (.int .u8 0) := rfl
  have hsz : (Lib.bytesCells w e ⟨⟨s⟩⟩).size = grownCap w s.length 0 e := by rw [hc]; simp; omega
  have hh : (Lib.bytesWorld w e ⟨⟨s⟩⟩).heap[w.heap.size]? = some (.cells (Lib.bytesCells w e ⟨⟨s⟩⟩) e ((Lib.bytesCells w e ⟨⟨s⟩⟩).size, (Lib.bytesCells w e ⟨⟨s⟩⟩).size + 1)) := by
    unfold Lib.bytesWorld World.freeze
    rw [if_neg (by omega)]
    have h0 : (w.drew.alloc (.cells (Lib.bytesCells w e ⟨⟨s⟩⟩) e)).heap[w.heap.size]? = some (.cells (Lib.bytesCells w e ⟨⟨s⟩⟩) e (0, 0)) := heap_alloc_new w.drew _
    simp only [Array.getElem?_modify, if_pos, h0]
    rfl
  refine ⟨_, _, ⟨?_, ?_, ?_, ?_, fun b hb => ?_⟩, hh, hsz, ?_, ?_, ?_⟩
  · unfold Lib.bytesWorld World.freeze; rw [if_neg (by omega)]; rfl
  · unfold Lib.bytesWorld World.freeze; rw [if_neg (by omega)]; rfl
  · unfold Lib.bytesWorld World.freeze; rw [if_neg (by omega)]; rfl
  · rw [Lib.bytesWorld_size]; omega
  · exact Lib.bytesWorld_at_old w e _ b hb
  · intro k hk h; omega
  · intro v hv
    rw [hc] at hv
    simp only [Array.toList_append, Array.toList_map, Array.toList_replicate, List.mem_append, List.mem_map] at hv
    rcases hv with ⟨b, _, rfl⟩ | hv
    · rfl
    · rw [List.eq_of_mem_replicate hv]; rfl
  · rw [hc]
    simp
theorem chunks_int {φ : Phi} {w : World} {k : IntKind} : ∀ {xs : List Int} {ys : List Value}, Chunks (CR φ w (.int k)) xs ys → ys = xs.map (Value.int k)
  | [], ys, h => by simpa [Chunks] using h
  | x :: xs, ys, h => by
    obtain ⟨c1, c2, rfl, h1, h2⟩ := h
    have h1' : c1 = [.int k x] := h1
    rw [h1', chunks_int h2]
    rfl
theorem convAct_sound [Env] (tab : TabOK P cx) {S T : TypeId} {x : RV} {vx : Value} (e : (convAct cx S T x).go H n = some (r, H', n')) (h : HRel φ ι w H) (hx : x.rel φ ι w vx) (lx : ∀ i ∈ x.ids, (getOb H i).live = true) (hfr : Free H n n') :
    Yld φ ι w H n r H' n' ((convert S T vx).run P w) := by
  unfold convAct at e
  split at e
  · rename_i i j hi hj
    split at e
    · rename_i k0 k h1 h2
      split at e
      · obtain ⟨rfl, rfl, rfl⟩ := go_ret e
        obtain rfl := VR.int.1 hx
        have d1 := int_desc tab hi h1
        have d2 := int_desc tab hj h2
        exact Yld.plain h (Plain.int _ _) (by simp [convert, run_underlying d1, run_underlying d2, Conv.intToInt])
      · simp [HM.go] at e
    · rename_i h1 h2
      split at e
      · obtain ⟨rfl, rfl, rfl⟩ := go_ret e
        obtain rfl := VR.str.1 hx
        have d1 := str_desc tab hi h1
        have d2 := str_desc tab hj h2
        exact Yld.plain h (Plain.str _) (by simp [convert, run_underlying d1, run_underlying d2])
      · simp [HM.go] at e
    · rename_i h1 h2
      split at e
      · rename_i a
        have q := go_chk2 e; clear e; obtain ⟨hb, e⟩ := q
        have hb : a.length ≤ roomMax := by simpa using hb
        simp only [HM.go, Option.some.injEq, Prod.mk.injEq] at e
        obtain ⟨rfl, rfl, rfl⟩ := e
        obtain rfl := VR.str.1 hx
        have d1 := str_desc tab hi h1
        have d2 := list_desc tab hj h2
        obtain ⟨u, hu, hut⟩ := list_elem tab hj h2
        have d3 := int_desc tab hu hut
        rw [Lib.run_convert_string_bytes w S T j.elem ⟨⟨a⟩⟩ d1 d2.1 d3]
        obtain ⟨cur, fr, g, hh, hsz, hf, h1', htk⟩ := bytes_new w j.elem a hb
        have hlen : (bytesOfS a).length = a.length := by simp [bytesOfS]
        have hge := grownCap_ge w a.length 0 j.elem
        have hrm : roomMax = 140737488355328 := rfl
        have := newArr (φ := φ) (ι := ι) (n := n) h (e := j.elem) (t := .int .u8) (xs := bytesOfS a) (c := grownCap w a.length 0 j.elem) (b := w.heap.size) g hh (Nat.le_refl _) (by rw [hlen]; exact hge)
          (grownCap_le_maxLen w _ _ _ (by simp only [maxLen]; omega)) (by rw [hsz]; simp [Ty.size]) ⟨hf, .inl rfl⟩ ⟨h1', .inl rfl⟩ (by
            have e5 : (bytesOfS a).length * (Ty.int IntKind.u8).size = a.length := by rw [hlen]; simp [Ty.size]
            rw [e5, htk]
            exact (string_source (P := P) (φ := φ) (w := Lib.bytesWorld w j.elem ⟨⟨a⟩⟩) a).chunks) hfr.1 (hfr.2 n (Nat.le_refl _) (by omega))
        rw [hlen] at this
        exact this
      · simp [HM.go] at e
    · rename_i h1 h2
      have hns : x.isStr = false := by
        cases hs : x.isStr with
        | false => rfl
        | true => rw [hs] at e; simp [HM.go] at e
      rw [hns] at e
      simp only [cond_false] at e
      obtain ⟨d, H1, n1, e1, e2⟩ := HM.go_bind_some e
      clear e
      obtain ⟨rfl, φ1, g1, hel⟩ := elems_sound e1 h hx lx
      obtain ⟨l, H2, n2, e3, e4⟩ := HM.go_bind_some e2
      clear e2
      obtain ⟨hc, rfl, rfl⟩ := go_opt e3
      obtain ⟨rfl, rfl, rfl⟩ := go_ret e4
      have d1 := list_desc tab hi h1
      have d2 := str_desc tab hj h2
      obtain ⟨u, hu, hut⟩ := list_elem tab hi h1
      have d3 := int_desc tab hu hut
      obtain ⟨du, dx⟩ := d
      obtain ⟨ec, rfl⟩ := cast_some hc
      simp only at ec
      subst ec
      refine Yld.ghost g1 ((Plain.str _).2 _ _ _) (by simp [RV.ids]) ?_
      rcases hel with ⟨s, _, _, hs⟩ | hel
      · rw [hns] at hs; cases hs
      · obtain ⟨A, c, ys, rfl, hle, hk, hh⟩ := hel _ _ rfl
        have hys := chunks_int hk
        rcases hh with hh | ⟨b, o, rfl, hcell⟩
        · have : dx = [] := List.eq_nil_of_length_eq_zero hh
          subst this
          cases A with
          | none => simp [convert, run_underlying d1.1, run_underlying d2, run_underlying d3, Conv.bytesToString, sOfBytes, ByteArray.empty, ByteArray.emptyWithCapacity]; rfl
          | some a => simp [convert, run_underlying d1.1, run_underlying d2, run_underlying d3, Conv.bytesToString, loadCells, loadCellsFrom, sOfBytes, ByteArray.empty, ByteArray.emptyWithCapacity]; rfl
        · exact run_convert_bytes_arg w S i.elem d1.1 d3 b o dx.length c dx rfl (fun k hk' => by
            have := hcell k (.int .u8 (dx.getD k 0)) (by
              rw [hys]
              simp only [List.getElem?_map]
              rw [getD_get (d := 0) hk']
              rfl)
            exact this) T d2
    · simp [HM.go] at e
  · simp [HM.go] at e
/-- The elements of a literal. -/
theorem buildSlice_go [Env] {t : Ty} : ∀ (parts : List (Nat × RV)) (pv : List (Nat × Value)) (φ : Phi) (xs : List t.den) (cells : Array Value) (H : List Ob) (n : Nat) (ys : List t.den) (H' : List Ob) (n' : Nat), (buildSliceAct.go t xs parts).go H n = some (ys, H', n') → HRel φ ι w H →
    Chunks (CR φ w t) xs cells.toList → Ops2 φ ι w H parts pv →
    n' = n ∧ ∃ φ' cells', Ghost φ ι w H φ' H' ∧ Instr.fill (fun i => some (i * t.size, t.size)) cells pv = some cells' ∧ Chunks (CR φ' w t) ys cells'.toList ∧ ys.length = xs.length
  | [], [], φ, xs, cells, H, n, ys, H', n', e, h, hk, _ => by
    have e' : (HM.ret xs).go H n = some (ys, H', n') := e
    obtain ⟨rfl, rfl, rfl⟩ := go_ret e'
    exact ⟨rfl, φ, cells, Ghost.refl h, rfl, hk, rfl⟩
  | [], _ :: _, _, _, _, _, _, _, _, _, _, _, _, ho => ho.elim
  | _ :: _, [], _, _, _, _, _, _, _, _, _, _, _, ho => ho.elim
  | (j, x) :: parts, (j', v) :: pv, φ, xs, cells, H, n, ys, H', n', e, h, hk, ⟨hj, hx, hlx, ho⟩ => by
    subst hj
    unfold buildSliceAct.go at e
    split at e
    · rename_i z hz
      obtain ⟨y, H1, n1, e1, e2⟩ := HM.go_bind_some e
      clear e
      obtain ⟨rfl, φ1, g1, hy⟩ := toTy_sound e1 h hx hlx
      have hlt : j < xs.length := by
        rcases Nat.lt_or_ge j xs.length with h1 | h1
        · exact h1
        · rw [List.getElem?_eq_none h1] at hz; cases hz
      have hk1 : Chunks (CR φ1 w t) xs cells.toList := hk.imp fun x c => CR.mono g1.step.phi g1.step.cells t x c
      have hs := Chunks.set (fun x c => CR.len t x c) xs cells.toList hk1 j y v.cells.toList hlt hy.1
      have hcl := hk.len (fun x c => CR.len t x c)
      have hle : (j + 1) * t.size ≤ xs.length * t.size := Nat.mul_le_mul_right _ hlt
      rw [Nat.add_mul, Nat.one_mul] at hle
      have hvs : v.cells.size = t.size := by have := hy.1.len; simpa using this
      have hstep := fill_step (place := fun i => some (i * t.size, t.size)) (i := j) (rest := pv) rfl hvs (show j * t.size + t.size ≤ cells.size by rw [← Array.length_toList, hcl]; exact hle)
      obtain ⟨hn, φ', cells', g2, hfill, hk', hl⟩ := buildSlice_go parts pv φ1 (xs.set j y) (cells.toList.take (j * t.size) ++ v.cells.toList ++ cells.toList.drop (j * t.size + t.size)).toArray H1 n1 ys H' n' e2 g1.rel (by simpa using hs) (ho.ghost g1)
      exact ⟨hn, φ', cells', g1.trans g2, by rw [hstep]; exact hfill, hk', by rw [hl]; simp⟩
    · simp [HM.go] at e
theorem buildSliceAct_sound [Env] (tab : TabOK P cx) {T : TypeId} {len : Nat} {parts : List (Nat × RV)} (e : (buildSliceAct cx T len parts).go H n = some (r, H', n')) (h : HRel φ ι w H) {pv : Array (Nat × Value)} (ho : Ops2 φ ι w H parts pv.toList) (hfr : Free H n n') :
    Yld φ ι w H n r H' n' ((Instr.buildSlice T len pv).run P w) := by
  unfold buildSliceAct at e
  split at e
  · rename_i i hi
    split at e
    · rename_i t ht
      have q := go_bif e; clear e; obtain ⟨hb, e⟩ := q
      have hb : len * t.size ≤ 100000 := by simpa using hb
      obtain ⟨ys, H1, n1, e1, e2⟩ := HM.go_bind_some e
      clear e
      simp only [HM.go, Option.some.injEq, Prod.mk.injEq] at e2
      obtain ⟨rfl, rfl, rfl⟩ := e2
      obtain ⟨hd, hel⟩ := list_desc tab hi ht
      obtain ⟨z, hz, hzs, ht0, hch⟩ := made_cells hel len
      obtain ⟨rfl, φ1, cells', g1, hfill, hk, hl⟩ := buildSlice_go parts pv.toList φ (List.replicate len t.zero) ((Array.range (len * t.size)).map fun i => z.cells[i % z.cells.size]!) H n ys H1 n1 e1 h (hch φ w) ho
      rw [List.length_replicate] at hl
      have hfr1 := hfr.ghost g1
      have hcl := hk.len (fun x c => CR.len t x c)
      rw [hl] at hcl
      have hlen : len ≤ 100000 := Nat.le_trans (Nat.le_mul_of_pos_right _ ht0) hb
      have hrun : (Instr.buildSlice T len pv).run P w = .ok (.slice (some ⟨w.heap.size, 0, none⟩) len len) (w.alloc (.cells cells' i.elem)) := by
        unfold Instr.buildSlice
        have h24 : ¬ (len * t.size > 2 ^ 24) := by omega
        simp only [Sem.run_bind, run_underlying hd, Result.andThen_ok, run_sizeOf_elem (w := w) hel, h24, if_false, Sem.run_pure]
        by_cases hz0 : len * t.size = 0
        · have hr0 : Array.range 0 = #[] := rfl
          rw [hz0, hr0] at hfill
          simp only [List.map_toArray, List.map_nil, Array.map_empty] at hfill
          simp [hz0, hr0, hfill, newRow]
        · simp only [hz0, if_false, Sem.run_bind, hz, Result.andThen_ok, Sem.run_pure, hfill, newRow, run_newObj_alloc]
      rw [hrun]
      have gw := Grew.alloc w (.cells cells' i.elem)
      have := newArr (φ := φ1) (ι := ι) (n := n1) g1.rel (e := i.elem) (t := t) (xs := ys) (c := len) (b := w.heap.size) gw (heap_alloc_new w _) (Nat.le_refl _) (by omega) (by simp only [maxLen]; omega) (by rw [← Array.length_toList, hcl]) (frA_zero _ _) (Cells.of_chunks (hk.imp fun x c => CR.mono (fun _ _ h => h) (fun b k hb => gw.cell (phi_lt g1.rel hb)) t x c) _)
        (by rw [hl, List.take_of_length_le (by rw [hcl]; exact Nat.le_refl _)]
            exact hk.imp fun x c => CR.mono (fun _ _ h => h) (fun b k hb => gw.cell (phi_lt g1.rel hb)) t x c) hfr1.1 (hfr1.2 n1 (Nat.le_refl _) (by omega))
      rw [hl] at this
      exact Yld.after g1 this
    · simp [HM.go] at e
  · simp [HM.go] at e
end
end Go.X
/- The engine, part Va: going through a text. -/
set_option linter.unusedVariables false
set_option linter.unusedSimpArgs false
namespace Go.X
open Go.RowKit
section
variable {P : Program} {cx : Cx} {φ φ' : Phi} {ι ι' : Nat → Value} {w w' : World} {H : List Ob} {n : Nat} {r : RV} {H' : List Ob} {n' : Nat}
theorem run_next_end {ty : TypeId} {b k : Nat} {s : ByteArray} (hb : w.heap[b]? = some (.stringIter s k)) (h : ¬ k < s.size) : (Instr.next (.pointer (some ⟨b, 0, none⟩)) true ty).run P w = .ok (.tuple #[.bool false]) w := by
  simp only [Instr.next, getObj, Sem.run_bind, Sem.run, hb, Result.andThen, h, if_false]
  rfl
theorem run_next_go {ty : TypeId} {b k : Nat} {s : ByteArray} (hb : w.heap[b]? = some (.stringIter s k)) (h : k < s.size) : (Instr.next (.pointer (some ⟨b, 0, none⟩)) true ty).run P w =
    .ok (.tuple #[.bool true, goInt k, .int .i32 (Utf8.decode s k).1]) { w with heap := w.heap.setIfInBounds b (.stringIter s (k + (Utf8.decode s k).2)) } := by
  simp only [Instr.next, getObj, setObj, Sem.run_bind, Sem.run, hb, Result.andThen, h, if_true]
  rfl
theorem run_range_str {T : TypeId} (hd : P.underlying T = some .string) (s : ByteArray) : (Instr.range T (.string s)).run P w = .ok (.pointer (some ⟨w.heap.size, 0, none⟩)) (w.alloc (.stringIter s 0)) := by
  simp [Instr.range, run_underlying hd]
theorem relT_tup {l : List RV} {v : Value} (h : ∃ vs, v = .tuple vs ∧ RV.relT φ ι w l vs.toList) : (RV.tup l).rel φ ι w v := h
theorem rangeAct_sound [Env] (tab : TabOK P cx) {T : TypeId} {x : RV} (e : (rangeAct cx T x).go H n = some (r, H', n')) (h : HRel φ ι w H) {v : Value} (hx : x.rel φ ι w v) (hfr : Free H n n') : Yld φ ι w H n r H' n' ((Instr.range T v).run P w) := by
  unfold rangeAct at e
  split at e
  · rename_i s
    have q := go_bif e; clear e; obtain ⟨hT, e⟩ := q
    obtain ⟨i, hi, ht⟩ := isTy_of hT
    have hd := str_desc tab hi ht
    simp only [HM.go, Option.some.injEq, Prod.mk.injEq] at e
    obtain ⟨rfl, rfl, rfl⟩ := e
    obtain rfl := VR.str.1 hx
    have g := Grew.alloc w (.stringIter ⟨⟨s⟩⟩ 0)
    have hb : (w.alloc (.stringIter ⟨⟨s⟩⟩ 0)).heap[w.heap.size]? = some (.stringIter ⟨⟨s⟩⟩ 0) := heap_alloc_new w _
    obtain ⟨h1, h2, h3, h4⟩ := newOb (v := .pointer (some ⟨w.heap.size, 0, none⟩)) (ob := .iter s 0) h hfr.1 (hfr.2 n (Nat.le_refl _) (by omega)) g
      ⟨w.heap.size, 0, by simp [updI], hb, rfl, fun k hk => by have := phi_lt h hk; omega⟩ (by simp [Ob.ids]) rfl
      (fun b hb => by have : w.heap.size = b := by simpa [blk] using hb
                      omega)
    refine ⟨_, _, φ, _, run_range_str hd _, h1, h2, h3, h4, rel_ptr ⟨w.heap.size, 0, .inr ⟨by simp [updI], rfl, rfl⟩, by simp [Ty.offAt], by simp [Ty.at_]⟩, ?_⟩
    · intro i hi
      have : i = n := by simpa [RV.ids] using hi
      subst this
      rw [getOb_put H i _ i hfr.1, if_pos rfl]
      rfl
  · simp [HM.go] at e
theorem nextAct_sound [Env] {ty : TypeId} {x : RV} (e : (nextAct x).go H n = some (r, H', n')) (h : HRel φ ι w H) {v : Value} (hx : x.rel φ ι w v) (lx : ∀ i ∈ x.ids, (getOb H i).live = true) : Yld φ ι w H n r H' n' ((Instr.next v true ty).run P w) := by
  unfold nextAct at e
  split at e
  · rename_i o
    simp only [HM.go] at e
    split at e
    · rename_i s pos ho
      have hro := h.obj o
      rw [ho] at hro
      obtain ⟨b, k, e1, hb, rfl, hφ⟩ := hro
      obtain ⟨b', k1, hv1, rfl, -⟩ := hx
      have hbb : b' = b ∧ k1 = 0 := by
        rcases hv1 with ⟨n0, c, h1, _⟩ | ⟨h1, _, h2⟩
        · rw [e1] at h1; cases h1
        · rw [e1] at h1; injection h1 with h1; injection h1 with h1; injection h1 with h1; exact ⟨h1.symm, h2⟩
      obtain ⟨rfl, rfl⟩ := hbb
      have hblk : blk (ι o) = some b' := by rw [e1]; rfl
      have hsz : (⟨⟨s⟩⟩ : ByteArray).size = s.length := rfl
      have hof : (0 + 0 * Ty.size .unit + Ty.offAt .unit [] : Nat) = 0 := rfl
      cases hlt : decide ((k : Int) < (s.length : Int))
      · simp only [hlt, HM.go, cond_false, Option.some.injEq, Prod.mk.injEq] at e
        obtain ⟨rfl, rfl, rfl⟩ := e
        have hlt' : ¬ k < s.length := by have := of_decide_eq_false hlt; omega
        refine Yld.pure (r := .tup [.dat .bool false]) (v := .tuple #[.bool false]) h (relT_tup ⟨#[.bool false], rfl, _, _, rfl, rel_dat (VR.bool.2 rfl), rfl⟩) (by simp [RV.ids, RV.idsL]) ?_
        rw [hof]
        exact run_next_end hb (by rw [hsz]; exact hlt')
      · simp only [hlt, HM.go, cond_true, Option.some.injEq, Prod.mk.injEq] at e
        obtain ⟨rfl, rfl, rfl⟩ := e
        have hlt' : k < s.length := by have := of_decide_eq_true hlt; omega
        have hlb : b' < w.heap.size := (Array.getElem?_eq_some_iff.1 hb).1
        have hrun := run_next_go (P := P) (ty := ty) hb (by rw [hsz]; exact hlt')
        have hw1 : Wrote w { w with heap := w.heap.setIfInBounds b' (.stringIter ⟨⟨s⟩⟩ (k + (Utf8.decode ⟨⟨s⟩⟩ k).2)) } b' :=
          ⟨rfl, rfl, rfl, by simp, fun j hj => by simp [Array.getElem?_setIfInBounds_ne (Ne.symm hj)]⟩
        have hob : ORel φ ι { w with heap := w.heap.setIfInBounds b' (.stringIter ⟨⟨s⟩⟩ (k + (Utf8.decode ⟨⟨s⟩⟩ k).2)) } o (.iter s ((k : Int) + (runeAt s (k : Int)).2)) :=
          ⟨b', k + (Utf8.decode ⟨⟨s⟩⟩ k).2, e1, by simp [hlb], by simp [runeAt], hφ⟩
        obtain ⟨u1, u2, u3, u4⟩ := modOb (n := n) (ob := .iter s ((k : Int) + (runeAt s (k : Int)).2)) h (by rw [ho]; rfl) hblk hw1 hφ hob (by simp [Ob.ids]) rfl
        rw [hof]
        exact ⟨_, _, φ, ι, hrun, u1, u2, u3, u4, relT_tup ⟨_, rfl, _, _, rfl, rel_dat (VR.bool.2 rfl), _, _, rfl, rel_dat (VR.int.2 rfl), _, _, rfl, rel_dat (VR.int.2 (by simp [runeAt])), rfl⟩, by simp [RV.ids, RV.idsL]⟩
    · simp [HM.go] at e
  · simp [HM.go] at e
end
end Go.X
/- The engine, part W: operations, one by one, over the machine's rule for them. -/
set_option linter.unusedVariables false
set_option linter.unusedSimpArgs false
namespace Go.X
open Go.RowKit

def EvOk (φ : Phi) (ι : Nat → Value) (w : World) (H : List Ob) (ev : Operand → RV) (ρ : Operand → Value) : Prop := ∀ x, (ev x).rel φ ι w (ρ x) ∧ ∀ i ∈ (ev x).ids, (getOb H i).live = true
/-- The fence of an activation of a function, or of a round. -/
abbrev FW (ro : Option Nat) : Fence := { fn := fun _ => True, depth := none, alive := false, round := ro }
theorem callsIn_of {P : Program} {f : FuncId} {args : Array Value} {w : World} {R : Ending → World → Prop} (ro : Option Nat) (h : Calls P f args w R) : CallsIn (FW ro) 0 P f args w R := (callsIn_wide (n := 0)).2 h
theorem wpIn_of {P : Program} {o : Oper} {a : Act} {w : World} {ro : Option Nat} {next : Act → World → Prop} {Q : Exit → Act → World → Prop} (hnd : ∀ c, o.op ≠ .defer c)
    (h : o.uponIn (FW ro) 0 P a next Q ((execOp a.eval o).run P w)) : o.wpIn (FW ro) 0 P a w next Q := ⟨fun _ _ => trivial, by rw [Oper.semAt_eq _ _ _ hnd]; exact h⟩
/-- What comes behind an operation. -/
def Nxt [Env] (P : Program) (o : Oper) (a : Act) (φ : Phi) (ι : Nat → Value) (w : World) (H : List Ob) (n : Nat) (r : RV) (H' : List Ob) (n' : Nat) : Prop :=
  ∀ (ro : Option Nat) (next : Act → World → Prop) (Q : Exit → Act → World → Prop), (∀ v w' φ' ι', HRel φ' ι' w' H' → Step φ ι w H φ' ι' w' H' → Keep ι H ι' H' → Nx H n H' n' → r.rel φ' ι' w' v → (∀ i ∈ r.ids, (getOb H' i).live = true) → next (a.put o.dst v) w') → o.wpIn (FW ro) 0 P a w next Q
/-- What is called does its work: a function with a body, or one of the machine's own. -/
def CallRes (P : Program) (f : FuncId) (vs : Array Value) (w : World) (R : Ending → World → Prop) : Prop :=
  ((callFunc f vs).run P w = .ok (.enter f vs) w ∧ Calls P f vs w R) ∨ ∃ v w', (callFunc f vs).run P w = .ok (.value v) w' ∧ R (.returned v) w'
theorem CallRes.mono {P : Program} {f : FuncId} {vs : Array Value} {w : World} {R R' : Ending → World → Prop} (h : CallRes P f vs w R) (hr : ∀ e w', R e w' → R' e w') : CallRes P f vs w R' :=
  h.imp (fun ⟨a, b⟩ => ⟨a, Calls.mono b hr⟩) fun ⟨v, w', a, b⟩ => ⟨v, w', a, hr _ _ b⟩
theorem callRes_of {P : Program} {f : FuncId} {vs : Array Value} {w : World} {R : Ending → World → Prop} (h : ∃ fn, P.funcs[f]? = some fn ∧ (fn.name == "runtime.NumGoroutine") = false ∧ fn.body.isNone = false) (hc : Calls P f vs w R) : CallRes P f vs w R := by
  obtain ⟨fn, hf1, hf2, hf3⟩ := h
  refine .inl ⟨?_, hc⟩
  unfold callFunc
  have hf4 : ¬ fn.name = "runtime.NumGoroutine" := by simpa using hf2
  have hf5 : ¬ fn.body = none := by
    intro h0
    rw [h0] at hf3
    cases hf3
  simp [hf1, hf4, hf5]
/-- What is called, or a round that is asked for, does its work. -/
def Does [Env] (P : Program) (f : FuncId) (vs : Array Value) (w : World) (R : Ending → World → Prop) : Prop := match Env.code f with
  | none => CallRes P f vs w R
  | some _ => ∃ l, vs[0]? = some (.func (.yield l) #[] #[]) ∧ YieldAt (FW none) 0 P l (vs.extract 1 vs.size) w R
theorem Does.mono [Env] {P : Program} {f : FuncId} {vs : Array Value} {w : World} {R R' : Ending → World → Prop} (h : Does P f vs w R) (hr : ∀ e w', R e w' → R' e w') : Does P f vs w R' := by
  unfold Does at h ⊢
  split at h
  · exact h.mono hr
  · obtain ⟨l, h1, fn, tmps, assign, body, h2, h3⟩ := h
    exact ⟨l, h1, fn, tmps, assign, body, h2, h3.mono hr⟩
theorem Does.call [Env] {P : Program} {f : FuncId} {vs : Array Value} {w : World} {R : Ending → World → Prop} (hf : isRnd f = false) : Does P f vs w R ↔ CallRes P f vs w R := by
  unfold isRnd at hf
  unfold Does
  cases h : Env.code f with
  | none => exact Iff.rfl
  | some c => rw [h] at hf; cases hf
theorem Does.round [Env] {P : Program} {f : FuncId} {vs : Array Value} {w : World} {R : Ending → World → Prop} (hf : isRnd f = true) : Does P f vs w R ↔ ∃ l, vs[0]? = some (.func (.yield l) #[] #[]) ∧ YieldAt (FW none) 0 P l (vs.extract 1 vs.size) w R := by
  unfold isRnd at hf
  unfold Does
  cases h : Env.code f with
  | none => rw [h] at hf; cases hf
  | some c => exact Iff.rfl
/-- What a function that is called does. -/
def GOK [Env] (P : Program) (f : FuncId) (args : List RV) (H : List Ob) (r : RV) (H' : List Ob) : Prop :=
  (∃ fn, P.funcs[f]? = some fn ∧ (fn.name == "runtime.NumGoroutine") = false ∧ fn.body.isNone = false) ∧
  ∀ (φ : Phi) (ι : Nat → Value) (w : World) (vs : Array Value), HRel φ ι w H → (∀ i, i < H.length → (getOb H i).live = true) → RV.relT φ ι w args vs.toList → (∀ i ∈ RV.idsL args, (getOb H i).live = true) →
    Calls P f vs w fun e w' => ∃ v φ' ι', e = .returned v ∧ HRel φ' ι' w' H' ∧ Step φ ι w H φ' ι' w' H' ∧ Keep ι H ι' H' ∧ r.rel φ' ι' w' v ∧ (∀ i ∈ r.ids, (getOb H' i).live = true)
def GOX [Env] (P : Program) (f : FuncId) (args : List RV) (H : List Ob) (r : RV) (H' : List Ob) : Prop :=
  ∀ (φ : Phi) (ι : Nat → Value) (w : World) (vs : Array Value), HRel φ ι w H → (∀ i, i < H.length → (getOb H i).live = true) → RV.relT φ ι w args vs.toList → (∀ i ∈ RV.idsL args, (getOb H i).live = true) →
    Does P f vs w fun e w' => ∃ v φ' ι', e = .returned v ∧ HRel φ' ι' w' H' ∧ Step φ ι w H φ' ι' w' H' ∧ Keep ι H ι' H' ∧ r.rel φ' ι' w' v ∧ (∀ i ∈ r.ids, (getOb H' i).live = true)
theorem GOK.x [Env] {P : Program} {f : FuncId} {args : List RV} {H : List Ob} {r : RV} {H' : List Ob} (hf : isRnd f = false) (h : GOK P f args H r H') : GOX P f args H r H' := fun φ ι w vs h1 h2 h3 h4 => (Does.call hf).2 (callRes_of h.1 (h.2 φ ι w vs h1 h2 h3 h4))
def GSound [Env] (P : Program) (Γ : Gam) : Prop := ∀ f args H r H', (Γ f args H).val = some (r, H') → GOX P f args H r H'

section
variable {P : Program} {cx : Cx} {φ : Phi} {ι : Nat → Value} {w : World} {H : List Ob} {n : Nat} {r : RV} {H' : List Ob} {n' : Nat} {o : Oper} {a : Act} {ev : Operand → RV}
theorem Nxt.of_yld [Env] (hnd : ∀ c, o.op ≠ .defer c) {s : Sem Value} (y : Yld φ ι w H n r H' n' (s.run P w)) (he : execOp a.eval o = (do pure (.value (← s)) : Sem Next)) : Nxt P o a φ ι w H n r H' n' := by
  intro ro next Q k
  obtain ⟨v, w', φ', ι', e, h1, h2, h3, h4, h5, h6⟩ := y
  refine wpIn_of hnd ?_
  rw [he]
  simp only [Sem.run_bind, e, Result.andThen_ok, Sem.run_pure, Oper.uponIn_value]
  exact k v w' φ' ι' h1 h2 h3 h4 h5 h6
theorem Nxt.of_pure [Env] (hnd : ∀ c, o.op ≠ .defer c) {v : Value} (h : HRel φ ι w H) (hr : r.rel φ ι w v) (lr : ∀ i ∈ r.ids, (getOb H i).live = true) (he : execOp a.eval o = (pure (.value v) : Sem Next)) : Nxt P o a φ ι w H n r H n := by
  intro ro next Q k
  refine wpIn_of hnd ?_
  rw [he]
  simp only [Sem.run_pure, Oper.uponIn_value]
  exact k v w φ ι h (Step.refl _ _ _ _) (Keep.refl _ _) (Nx.refl _ _) hr lr
theorem asInt_some {x : RV} {i : Int} {v : Value} (h : asInt? x = some i) (hx : x.rel φ ι w v) : ∃ k, v = .int k i := by
  unfold asInt? at h
  split at h
  · rename_i k a
    obtain rfl := Option.some.inj h
    exact ⟨k, VR.int.1 hx⟩
  · cases h
theorem asBool_some {x : RV} {b : Bool} {v : Value} (h : asBool? x = some b) (hx : x.rel φ ι w v) : v = .bool b := by
  unfold asBool? at h
  split at h
  · obtain rfl := Option.some.inj h
    exact VR.bool.1 hx
  · cases h
theorem optInt_of {x : Option Operand} {m : Option Int} (hev : EvOk φ ι w H ev a.eval) (h : bInt (x.map ev) = some m) : OptInt (x.map a.eval) m := by
  cases x with
  | none =>
    simp only [Option.map_none, bInt, Option.some.injEq] at h
    subst h
    trivial
  | some y =>
    simp only [Option.map_some, bInt, Option.map_eq_some_iff] at h
    obtain ⟨i, hi, rfl⟩ := h
    obtain ⟨k, hk⟩ := asInt_some hi (hev y).1
    exact ⟨k, hk⟩
theorem ops2_of (hev : EvOk φ ι w H ev a.eval) : ∀ (l : List (Nat × Operand)), Ops2 φ ι w H (l.map fun p => (p.1, ev p.2)) (l.map fun p => (p.1, a.eval p.2))
  | [] => trivial
  | p :: l => ⟨rfl, (hev p.2).1, (hev p.2).2, ops2_of hev l⟩
theorem relT_of (hev : EvOk φ ι w H ev a.eval) : ∀ (l : List Operand), RV.relT φ ι w (l.map ev) (l.map a.eval)
  | [] => rfl
  | p :: l => ⟨_, _, rfl, (hev p).1, relT_of hev l⟩
theorem liveT_of (hev : EvOk φ ι w H ev a.eval) : ∀ (l : List Operand), ∀ i ∈ RV.idsL (l.map ev), (getOb H i).live = true
  | [], i, h => by simp [RV.idsL] at h
  | p :: l, i, h => by
    simp only [List.map_cons, RV.idsL, List.mem_append] at h
    rcases h with h | h
    · exact (hev p).2 i h
    · exact liveT_of hev l i h
theorem rel_fn {f : FuncId} {l m : List RV} {v : Value} (h : ∃ x y, v = .func (.func f) x y ∧ RV.relT φ ι w l x.toList ∧ RV.relT φ ι w m y.toList) : (RV.fn f l m).rel φ ι w v := h
theorem rel_iface {T : TypeId} {x : RV} {v : Value} (h : ∃ u, v = .iface T u ∧ x.rel φ ι w u) : (RV.iface T x).rel φ ι w v := h
theorem typs_rel : ∀ (Ts : List TypeId) (l : List RV) (vs : List Value), RV.relT φ ι w l vs → RV.relT φ ι w (typs cx Ts l) vs
  | [], _, _, h => by unfold typs; exact h
  | _ :: _, [], _, h => by unfold typs; exact h
  | T :: Ts, r :: l, _, ⟨v, m, e, h1, h2⟩ => ⟨v, m, e, typ_rel h1, typs_rel Ts l m h2⟩
theorem typs_ids : ∀ (Ts : List TypeId) (l : List RV), ∀ i ∈ RV.idsL (typs cx Ts l), i ∈ RV.idsL l
  | [], _, i, h => by unfold typs at h; exact h
  | _ :: _, [], i, h => by unfold typs at h; exact h
  | T :: Ts, r :: l, i, h => by
    simp only [typs, RV.idsL, List.mem_append] at h ⊢
    rcases h with h | h
    · exact .inl (typ_ids i h)
    · exact .inr (typs_ids Ts l i h)
theorem relT_get : ∀ {l : List RV} {vs : List Value} {j : Nat} {x : RV}, RV.relT φ ι w l vs → l[j]? = some x → ∃ v, vs[j]? = some v ∧ x.rel φ ι w v
  | [], _, j, x, _, h => by simp at h
  | y :: l, _, 0, x, ⟨v, m, e, h1, h2⟩, h => by
    subst e
    obtain rfl : y = x := by simpa using h
    exact ⟨v, by simp, h1⟩
  | y :: l, _, j + 1, x, ⟨v, m, e, h1, h2⟩, h => by
    subst e
    obtain ⟨u, h3, h4⟩ := relT_get h2 (by simpa using h : l[j]? = some x)
    exact ⟨u, by simpa using h3, h4⟩
theorem idsL_get : ∀ {l : List RV} {j : Nat} {x : RV}, l[j]? = some x → ∀ i ∈ x.ids, i ∈ RV.idsL l
  | [], j, x, h => by simp at h
  | y :: l, 0, x, h => by
    obtain rfl : y = x := by simpa using h
    intro i hi; simp only [RV.idsL, List.mem_append]; exact .inl hi
  | y :: l, j + 1, x, h => by
    intro i hi; simp only [RV.idsL, List.mem_append]; exact .inr (idsL_get (by simpa using h) i hi)
theorem capAct_sound [Env] (tab : TabOK P cx) {T ty : TypeId} {x : RV} {v : Value} (e : (capAct cx T x).go H n = some (r, H', n')) (h : HRel φ ι w H) (hx : x.rel φ ι w v) : Yld φ ι w H n r H' n' ((Builtin.cap_ #[T] ty #[v]).run P w) := by
  have key : ∀ {t : Ty} {A : Option Addr} {m c : Nat}, cx.isTy T (.list t) = true → (Builtin.cap_ #[T] ty #[.slice A m c]).run P w = .ok (.int .i64 (c : Int)) w := by
    intro t A m c hT
    obtain ⟨i, hi, ht⟩ := isTy_of hT
    have hd := (list_desc tab hi ht).1
    simp [Builtin.cap_, run_underlying hd, goInt]
  unfold capAct at e
  split at e
  · have q := go_bif e; clear e; obtain ⟨hT, e⟩ := q
    obtain ⟨rfl, rfl, rfl⟩ := go_ret e
    simp only [RV.rel] at hx
    subst hx
    exact Yld.pure (r := .dat (.int .i64) (0 : Int)) (v := .int .i64 0) h (rel_dat (VR.int.2 rfl)) (by simp [RV.ids]) (key hT)
  · have q := go_bif e; clear e; obtain ⟨hT, e⟩ := q
    obtain ⟨rfl, rfl, rfl⟩ := go_ret e
    obtain ⟨A, m, rfl, hcr⟩ := hx
    obtain ⟨A2, m2, c2, e1, hl, -⟩ := hcr
    injection e1 with e1 _
    obtain ⟨rfl, rfl, rfl⟩ := slice_inj e1
    rw [hl]
    exact Yld.pure (r := .dat (.int .i64) (m : Int)) (v := .int .i64 (m : Int)) h (rel_dat (VR.int.2 rfl)) (by simp [RV.ids]) (key hT)
  · rename_i t o
    have q := go_bif e; clear e; obtain ⟨hT, e⟩ := q
    simp only [HM.go] at e
    split at e
    · rename_i e0 u xs fz ho
      obtain ⟨rfl, rfl, rfl⟩ := go_ret e
      obtain ⟨fz', ho', -⟩ := mask_arr ho
      have hro := h.obj o
      rw [ho'] at hro
      obtain ⟨A, m, c, e1, e2, e3, _⟩ := hro
      obtain ⟨rfl, _⟩ := hx
      rw [e1]
      exact Yld.pure (r := .atl xs.length) (v := .int .i64 (c : Int)) h ⟨c, rfl, by omega⟩ (by simp [RV.ids]) (key hT)
    · simp [HM.go] at e
  · rename_i t o lo hi
    have q := go_bif e; clear e; obtain ⟨hT, e⟩ := q
    simp only [HM.go] at e
    split at e
    · rename_i e0 u xs fz ho
      obtain ⟨rfl, rfl, rfl⟩ := go_ret e
      obtain ⟨fz', ho', -⟩ := mask_arr ho
      have hro := h.obj o
      rw [ho'] at hro
      obtain ⟨A, m, c, e1, e2, e3, _⟩ := hro
      obtain ⟨A2, m2, c2, A', e4, _, _, _, rfl, _⟩ := hx
      rw [e1] at e4
      obtain ⟨rfl, rfl, rfl⟩ := slice_inj e4
      exact Yld.pure (r := .atl (xs.length - lo)) (v := .int .i64 ((c - lo : Nat) : Int)) h ⟨c - lo, rfl, by omega⟩ (by simp [RV.ids]) (key hT)
    · simp [HM.go] at e
  · simp [HM.go] at e
theorem builtinAct_sound [Env] (tab : TabOK P cx) {b : Builtin} {Ts : Array TypeId} {ty : TypeId} {cs : Array Bool} {args : List RV} {vs : Array Value} (e : (builtinAct cx b Ts.toList args).go H n = some (r, H', n')) (h : HRel φ ι w H)
    (ha : RV.relT φ ι w args vs.toList) (la : ∀ i ∈ RV.idsL args, (getOb H i).live = true) (hfr : Free H n n') :
    ∃ s : Sem Value, builtin b Ts ty cs vs = (do pure (.value (← s)) : Sem Next) ∧ Yld φ ι w H n r H' n' (s.run P w) := by
  unfold builtinAct at e
  split at e
  · rename_i T x hT
    obtain ⟨v, m, hv, hx, hm⟩ := ha
    simp only [RV.relT] at hm
    subst hm
    have hTs : Ts = #[T] := by cases Ts; simp at hT; simp [hT]
    have hvs : vs = #[v] := by cases vs; simp at hv; simp [hv]
    subst hTs hvs
    exact ⟨_, rfl, lenAct_sound tab e h hx⟩
  · rename_i T T2 s x hT
    obtain ⟨v, m, hv, hx, v2, m2, hm, hx2, hm2⟩ := ha
    simp only [RV.relT] at hm2
    subst hm2 hm
    have hTs : Ts = #[T, T2] := by cases Ts; simp at hT; simp [hT]
    have hvs : vs = #[v, v2] := by cases vs; simp at hv; simp [hv]
    subst hTs hvs
    exact ⟨_, rfl, appendAct_sound tab e h hx hx2 (fun i hi => la i (by simp [RV.idsL, hi])) (fun i hi => la i (by simp [RV.idsL, hi])) hfr⟩
  · rename_i Ts' x l
    obtain ⟨v, m, hv, hx, hm⟩ := ha
    refine ⟨_, rfl, ?_⟩
    have q := minmax_sound (P := P) l x m v r e hm hx (fun i hi => la i (by simp [RV.idsL, hi]))
    clear e
    obtain ⟨h1, h2, u, hu, hr, lr⟩ := q
    subst h1 h2
    refine Yld.pure (r := r) (v := u) h hr lr ?_
    simp only [Bool.false_eq_true, if_false] at hu
    unfold Builtin.min_
    rw [hv]
    exact hu
  · rename_i Ts' x l
    obtain ⟨v, m, hv, hx, hm⟩ := ha
    refine ⟨_, rfl, ?_⟩
    have q := minmax_sound (P := P) l x m v r e hm hx (fun i hi => la i (by simp [RV.idsL, hi]))
    clear e
    obtain ⟨h1, h2, u, hu, hr, lr⟩ := q
    subst h1 h2
    refine Yld.pure (r := r) (v := u) h hr lr ?_
    simp only [if_true] at hu
    unfold Builtin.max_
    rw [hv]
    exact hu
  · rename_i T x hT
    obtain ⟨v, m, hv, hx, hm⟩ := ha
    simp only [RV.relT] at hm
    subst hm
    have hTs : Ts = #[T] := by cases Ts; simp at hT; simp [hT]
    have hvs : vs = #[v] := by cases vs; simp at hv; simp [hv]
    subst hvs
    have q := go_bif e; clear e; obtain ⟨hsrc, e⟩ := q
    obtain ⟨d, hd, -⟩ := srcTy_of tab hsrc
    exact ⟨_, rfl, clearAct_sound tab hTs e h hx ⟨d, hd⟩⟩
  · rename_i T T2 s x hT
    obtain ⟨v, m, hv, hx, v2, m2, hm, hx2, hm2⟩ := ha
    simp only [RV.relT] at hm2
    subst hm2 hm
    have hTs : Ts = #[T, T2] := by cases Ts; simp at hT; simp [hT]
    have hvs : vs = #[v, v2] := by cases vs; simp at hv; simp [hv]
    subst hTs hvs
    have q := go_bif e; clear e; obtain ⟨hsrc, e⟩ := q
    exact ⟨_, rfl, copyAct_sound tab e h hx hx2 (fun i hi => la i (by simp [RV.idsL, hi])) (fun i hi => la i (by simp [RV.idsL, hi]))⟩
  · rename_i T x hT
    obtain ⟨v, m, hv, hx, hm⟩ := ha
    simp only [RV.relT] at hm
    subst hm
    have hTs : Ts = #[T] := by cases Ts; simp at hT; simp [hT]
    have hvs : vs = #[v] := by cases vs; simp at hv; simp [hv]
    subst hTs hvs
    exact ⟨_, rfl, capAct_sound tab e h hx⟩
  · simp [HM.go] at e
theorem storeNxt [Env] {T : TypeId} {x y : Operand} (hr : r = .undef) (y' : ∃ w' φ' ι', (Instr.storeAt T (a.eval x) (a.eval y)).run P w = .ok () w' ∧ HRel φ' ι' w' H' ∧ Step φ ι w H φ' ι' w' H' ∧ Keep ι H ι' H' ∧ Nx H n H' n') (ho : o.op = .store T x y) :
    Nxt P o a φ ι w H n r H' n' := by
  subst hr
  intro ro next Q k
  obtain ⟨w', φ', ι', e, h1, h2, h3, h4⟩ := y'
  refine wpIn_of (fun c hc => by rw [ho] at hc; cases hc) ?_
  unfold execOp
  simp only [ho, Sem.run_bind, e, Result.andThen_ok, Sem.run_pure, Oper.uponIn_value]
  exact k undef w' φ' ι' h1 h2 h3 h4 trivial (by simp [RV.ids])
/-- All operations but calls of functions. -/
theorem opAct_sound [Env] (tab : TabOK P cx) {Γ : Gam} (hcall : ∀ c x g l m, o.op = .call c → c.callee = .value x → ev x = .fn g l m → isRnd g = false → (callAct cx Γ g (l ++ typs cx c.argTypes.toList (c.args.toList.map ev) ++ m)).go H n = some (r, H', n') → Nxt P o a φ ι w H n r H' n')
    (hinv : ∀ c x nm T r1 i f, o.op = .call c → c.callee = .invoke x nm → ev x = .iface T r1 → cx.ti T = some i → methAt i.meths nm = some f → isRnd f = false → (callAct cx Γ f (r1 :: typs cx c.argTypes.toList (c.args.toList.map ev))).go H n = some (r, H', n') → Nxt P o a φ ι w H n r H' n')
    (hyld : ∀ c x Y o1, o.op = .call c → c.callee = .value x → ev x = .yld Y o1 → isRnd Y = true → (callAct cx Γ Y (.yld Y o1 :: typs cx c.argTypes.toList (c.args.toList.map ev))).go H n = some (r, H', n') → Nxt P o a φ ι w H n r H' n')
    (e : (opAct cx Γ o ev).go H n = some (r, H', n')) (h : HRel φ ι w H) (hev : EvOk φ ι w H ev a.eval) (hfr : Free H n n') : Nxt P o a φ ι w H n r H' n' := by
  have hnd : ∀ c, o.op ≠ .defer c := fun c hc => by
    unfold opAct at e
    rw [hc] at e
    simp [HM.go] at e
  unfold opAct at e
  split at e
  · rename_i x ho
    obtain ⟨rfl, rfl, rfl⟩ := go_ret e
    exact Nxt.of_pure hnd h (typ_rel (hev x).1) (fun i hi => (hev x).2 i (typ_ids i hi)) (by simp [execOp, ho])
  · rename_i x ho
    obtain ⟨rfl, rfl, rfl⟩ := go_ret e
    exact Nxt.of_pure hnd h (typ_rel (hev x).1) (fun i hi => (hev x).2 i (typ_ids i hi)) (by simp [execOp, ho])
  · rename_i c x y ho
    split at e
    · rename_i t ht
      have hc := asBool_some ht (hev c).1
      cases t
      · simp only [HM.go, cond_false] at e
        obtain ⟨rfl, rfl, rfl⟩ := go_ret e
        refine Nxt.of_yld hnd (s := pure (a.eval y)) (Yld.pure h (hev y).1 (hev y).2 rfl) ?_
        simp [execOp, ho, hc, asBool]
      · simp only [HM.go, cond_true] at e
        obtain ⟨rfl, rfl, rfl⟩ := go_ret e
        refine Nxt.of_yld hnd (s := pure (a.eval x)) (Yld.pure h (hev x).1 (hev x).2 rfl) ?_
        simp [execOp, ho, hc, asBool]
    · simp [HM.go] at e
  · rename_i T ho
    exact Nxt.of_yld hnd (allocAct_sound tab e h hfr) (by simp [execOp, ho])
  · rename_i T x ho
    exact Nxt.of_yld hnd (boxAct_sound tab e h (hev x).1 (hev x).2 hfr) (by simp [execOp, ho])
  · rename_i T ps ho
    have e1 : (ps.map fun p => (p.1, a.eval p.2)).toList = ps.toList.map fun p => (p.1, a.eval p.2) := by simp
    exact Nxt.of_yld hnd (buildAct_sound tab e h (pv := ps.map fun p => (p.1, a.eval p.2)) (by rw [e1]; exact ops2_of hev _)) (by simp [execOp, ho])
  · rename_i T m ps ho
    have e1 : (ps.map fun p => (p.1, a.eval p.2)).toList = ps.toList.map fun p => (p.1, a.eval p.2) := by simp
    exact Nxt.of_yld hnd (buildSliceAct_sound tab e h (pv := ps.map fun p => (p.1, a.eval p.2)) (by rw [e1]; exact ops2_of hev _) hfr) (by simp [execOp, ho])
  · rename_i T x ho
    exact Nxt.of_yld hnd (loadAct_sound tab e h (hev x).1) (by simp [execOp, ho])
  · rename_i T x y ho
    obtain ⟨hr, y'⟩ := storeAct_sound tab e h (hev x).1 (typ_rel (hev y).1) (hev x).2 (fun i hi => (hev y).2 i (typ_ids i hi))
    exact storeNxt hr y' ho
  · rename_i x ho
    have hx := hev x
    split at e
    · rename_i o' t i p hp
      obtain ⟨rfl, rfl, rfl⟩ := go_ret e
      rw [hp] at hx
      have hx1 := hx.1
      obtain ⟨b, k, -, hv, -⟩ := hx1
      exact Nxt.of_pure hnd h hx.1 hx.2 (by simp [execOp, ho, hv])
    · rename_i t y hp
      obtain ⟨rfl, rfl, rfl⟩ := go_ret e
      rw [hp] at hx
      have hx1 := hx.1
      obtain ⟨b, i, cs, hv, -⟩ := hx1
      exact Nxt.of_pure hnd h hx.1 hx.2 (by simp [execOp, ho, hv])
    · simp [HM.go] at e
  · rename_i b T x y z ho
    cases hn : isNilC y
    case true =>
      rw [hn, cond_true] at e
      obtain rfl : y = .const .nilIface := by
        unfold isNilC at hn
        split at hn
        · rfl
        · cases hn
      exact Nxt.of_yld hnd (nilAct_sound tab e h (hev x).1 (hev x).2 x .nilIface) (by simp [execOp, ho, Act.eval])
    case false =>
      rw [hn, cond_false] at e
      exact Nxt.of_yld hnd (binAct_sound tab e h (hev x).1 (hev y).1 (hev x).2 (hev y).2 x y) (by simp [execOp, ho])
  · rename_i b T x ho
    exact Nxt.of_yld hnd (unAct_sound e h (hev x).1) (by simp [execOp, ho])
  · rename_i S T x ho
    exact Nxt.of_yld hnd (convAct_sound tab e h (hev x).1 (hev x).2 hfr) (by simp [execOp, ho])
  · rename_i f l m ho
    obtain ⟨rfl, rfl, rfl⟩ := go_ret e
    refine Nxt.of_yld hnd (s := Instr.makeFunc (.func f) (l.map a.eval) (m.map a.eval)) (Yld.pure (v := .func (.func f) (l.map a.eval) (m.map a.eval)) h (rel_fn ⟨_, _, rfl, ?_, ?_⟩) ?_ ?_) (by simp [execOp, ho])
    · simpa using relT_of hev l.toList
    · simpa using relT_of hev m.toList
    · intro i hi
      simp only [RV.ids, List.mem_append] at hi
      rcases hi with hi | hi
      · exact liveT_of hev _ i hi
      · exact liveT_of hev _ i hi
    · simp [Instr.makeFunc]
  · rename_i T x ho
    split at e
    · rename_i i hi
      cases hq : decide (i.ty = .opq)
      · simp only [hq, cond_false] at e
        obtain ⟨rfl, rfl, rfl⟩ := go_ret e
        refine Nxt.of_yld hnd (s := Instr.makeInterface T (a.eval x)) (Yld.pure (v := .iface T (a.eval x)) h (rel_iface ⟨_, rfl, (hev x).1⟩) (hev x).2 ?_) (by simp [execOp, ho])
        have hd := (tab T i hi).desc
        have hq : i.ty ≠ .opq := by simpa using hq
        unfold descOk at hd
        split at hd
        · simp [Instr.makeInterface, run_underlying hd]
        · simp [Instr.makeInterface, run_underlying hd]
        · simp [Instr.makeInterface, run_underlying hd]
        · simp [Instr.makeInterface, run_underlying hd.1]
        · rename_i e; exact absurd e hq
        · rcases hd with ⟨_, fs, hd, _⟩ | ⟨_, n, e, ei, hd, _⟩ <;> simp [Instr.makeInterface, run_underlying hd]
      · simp [hq, HM.go] at e
    · simp [HM.go] at e
  · rename_i T x y ho
    split at e
    · rename_i i j hi hj
      obtain ⟨k1, h1⟩ := asInt_some hi (hev x).1
      obtain ⟨k2, h2⟩ := asInt_some hj (hev y).1
      refine Nxt.of_yld hnd (s := Instr.makeSlice T (a.eval x) (a.eval y)) ?_ (by simp [execOp, ho])
      rw [h1, h2]
      exact makeSliceAct_sound tab e h hfr
    · simp [HM.go] at e
  · rename_i T x lo hi mx ho
    split at e
    · rename_i l h' m h1 h2 h3
      exact Nxt.of_yld hnd (sliceAct_sound tab e h (hev x).1 (hev x).2 (optInt_of hev h1) (optInt_of hev h2) (optInt_of hev h3)) (by simp [execOp, ho])
    · simp [HM.go] at e
  · rename_i T x f ho
    exact Nxt.of_yld hnd (fieldAddrAct_sound tab e h (hev x).1 (hev x).2) (by simp [execOp, ho])
  · rename_i T x f ho
    exact Nxt.of_yld hnd (fieldAct_sound tab e h (hev x).1 (hev x).2) (by simp [execOp, ho])
  · rename_i T x y ho
    split at e
    · rename_i i hi
      obtain ⟨k, hk⟩ := asInt_some hi (hev y).1
      refine Nxt.of_yld hnd (s := Instr.indexAt T (a.eval x) (a.eval y)) ?_ (by simp [execOp, ho])
      rw [hk]
      exact indexAddrAct_sound tab e h (hev x).1 (hev x).2 k
    · simp [HM.go] at e
  · rename_i T x y ho
    split at e
    · rename_i i hi
      obtain ⟨k, hk⟩ := asInt_some hi (hev y).1
      refine Nxt.of_yld hnd (s := Instr.index T (a.eval x) (a.eval y)) ?_ (by simp [execOp, ho])
      rw [hk]
      exact indexAct_sound tab e h (hev x).1 k
    · simp [HM.go] at e
  · rename_i T x ho
    exact Nxt.of_yld hnd (rangeAct_sound tab e h (hev x).1 hfr) (by simp [execOp, ho])
  · rename_i x b ho
    cases b
    · simp [HM.go] at e
    · exact Nxt.of_yld hnd (nextAct_sound (ty := o.type) e h (hev x).1 (hev x).2) (by simp [execOp, ho])
  · rename_i x j ho
    have hx := hev x
    split at e
    · rename_i l hl
      rw [hl] at hx
      obtain ⟨hx1, hx2⟩ := hx
      obtain ⟨vs, hv, hr⟩ := hx1
      obtain ⟨hy, rfl, rfl⟩ := go_opt e
      obtain ⟨u, hu, hru⟩ := relT_get hr hy
      refine Nxt.of_yld hnd (s := Instr.extract (a.eval x) j) (Yld.pure (v := u) h hru (fun i hi => hx2 i (idsL_get hy i hi)) ?_) (by simp [execOp, ho])
      rw [hv]
      have hu' : vs[j]? = some u := by simpa using hu
      simp [Instr.extract, hu']
    · simp [HM.go] at e
  · rename_i c ho
    split at e
    · rename_i b hb
      obtain ⟨s, hs, y⟩ := builtinAct_sound tab (ty := o.type) (cs := c.args.map fun | .const _ => true | _ => false) (vs := c.args.map a.eval) e h (by simpa using typs_rel (cx := cx) c.argTypes.toList _ _ (relT_of hev c.args.toList)) (fun i hi => liveT_of hev c.args.toList i (typs_ids _ _ i hi)) hfr
      refine Nxt.of_yld hnd y ?_
      simp only [execOp, ho, resolve, hb, pure_bind, invoke]
      exact hs
    · rename_i x hx
      split at e
      · rename_i g l m hg
        cases hr : isRnd g
        · rw [hr, cond_false] at e
          exact hcall c x g l m ho hx hg hr e
        · simp [hr, HM.go] at e
      · rename_i Y o1 hy
        cases hr : isRnd Y
        · simp [hr, HM.go] at e
        · rw [hr, cond_true] at e
          exact hyld c x Y o1 ho hx hy hr e
      · simp [HM.go] at e
    · rename_i x nm hx
      split at e
      · rename_i T r1 hr1
        split at e
        · rename_i i hi
          split at e
          · rename_i f hf
            cases hr : isRnd f
            · rw [hr, cond_false] at e
              exact hinv c x nm T r1 i f ho hx hr1 hi hf hr e
            · simp [hr, HM.go] at e
          · simp [HM.go] at e
        · simp [HM.go] at e
      · simp [HM.go] at e
  · simp [HM.go] at e
end
end Go.X
/- The engine, part X: a part of the objects, under new names. -/
set_option linter.unusedVariables false
set_option linter.unusedSimpArgs false
namespace Go.X
open Go.RowKit

theorem has_iff {l : List Nat} {o : Nat} : has l o = true ↔ o ∈ l := by
  induction l with
  | nil => simp [has]
  | cons a l ih =>
    have : (has (a :: l) o = true) = ((Nat.beq a o || has l o) = true) := rfl
    rw [this, Bool.or_eq_true, ih, List.mem_cons, Nat.beq_eq]
    exact ⟨fun h => h.imp Eq.symm id, fun h => h.imp Eq.symm id⟩
theorem idx_go (l : List Nat) (o : Nat) : ∀ n, idx.go o l n = n + idx.go o l 0 := by
  induction l with
  | nil => intro n; simp [idx.go]
  | cons a l ih =>
    intro n
    simp only [idx.go]
    cases Nat.beq a o
    · simp only [cond_false]; rw [ih (n + 1), ih (0 + 1)]; omega
    · simp
theorem idx_cons (a : Nat) (l : List Nat) (o : Nat) : idx (a :: l) o = bif Nat.beq a o then 0 else idx l o + 1 := by
  unfold idx
  simp only [idx.go]
  cases Nat.beq a o
  · simp only [cond_false]; rw [idx_go]; omega
  · rfl
theorem idx_get {l : List Nat} {o : Nat} (h : o ∈ l) : l[idx l o]? = some o := by
  induction l with
  | nil => cases h
  | cons a l ih =>
    rw [idx_cons]
    cases hb : Nat.beq a o
    · have hne : o ≠ a := by rintro rfl; simp at hb
      simpa using ih (by simpa [hne] using h)
    · have : a = o := by simpa using hb
      simp [this]
theorem idx_lt {l : List Nat} {o : Nat} (h : o ∈ l) : idx l o < l.length := (List.getElem?_eq_some_iff.1 (idx_get h)).1
theorem idx_nodup {l : List Nat} (hn : l.Nodup) {i o : Nat} (h : l[i]? = some o) : idx l o = i := by
  have h1 := idx_get (List.mem_of_getElem? h)
  obtain ⟨hi, e1⟩ := List.getElem?_eq_some_iff.1 h
  obtain ⟨hj, e2⟩ := List.getElem?_eq_some_iff.1 h1
  exact (List.getElem_inj hn).1 (by rw [e1, e2])

mutual
theorem RV.ren_ids (ρ : Nat → Nat) : ∀ r : RV, (r.ren ρ).ids = r.ids.map ρ
  | .own .. => rfl | .view .. => rfl | .ptr .. => rfl
  | .agg l => by simp [RV.ren, RV.ids, RV.renL_ids ρ l]
  | .tup l => by simp [RV.ren, RV.ids, RV.renL_ids ρ l]
  | .fn f a b => by simp [RV.ren, RV.ids, RV.renL_ids ρ a, RV.renL_ids ρ b]
  | .iface T r => by simp [RV.ren, RV.ids, RV.ren_ids ρ r]
  | .dfr f a b t xs => by simp [RV.ren, RV.ids, RV.renL_ids ρ a, RV.renL_ids ρ b]
  | .undef => rfl | .dat .. => rfl | .clip .. => rfl | .nilv => rfl | .nils .. => rfl | .fptr .. => rfl | .nilI => rfl | .nilF => rfl | .nilP => rfl | .atl _ => rfl | .lim .. => rfl | .yld .. => rfl | .gp .. => rfl
theorem RV.renL_ids (ρ : Nat → Nat) : ∀ l : List RV, RV.idsL (RV.renL ρ l) = (RV.idsL l).map ρ
  | [] => rfl
  | r :: l => by simp [RV.renL, RV.idsL, RV.ren_ids ρ r, RV.renL_ids ρ l]
end
mutual
theorem RV.ren_fits (ρ : Nat → Nat) : ∀ (r : RV) (t : Ty), (r.ren ρ).fits t = r.fits t
  | .own .., _ => rfl | .view .., _ => rfl | .ptr .., _ => rfl
  | .agg l, t => by simp [RV.ren, RV.fits, RV.renL_fits ρ l]
  | .tup l, t => by simp [RV.ren, RV.fits]
  | .fn f a b, t => by simp [RV.ren, RV.fits]
  | .iface T r, t => by simp [RV.ren, RV.fits]
  | .dfr .., t => by simp [RV.ren, RV.fits]
  | .undef, _ => rfl | .dat .., _ => rfl | .clip .., _ => rfl | .nilv, _ => rfl | .nils .., _ => rfl | .fptr .., _ => rfl | .nilI, _ => rfl | .nilF, _ => rfl | .nilP, _ => rfl | .atl _, _ => rfl | .lim .., _ => rfl | .yld .., _ => rfl | .gp .., _ => rfl
theorem RV.renL_fits (ρ : Nat → Nat) : ∀ (l : List RV) (t : Ty), RV.fitsL (RV.renL ρ l) t = RV.fitsL l t
  | [], t => rfl
  | r :: l, t => by cases t <;> simp [RV.renL, RV.fitsL, RV.ren_fits ρ r, RV.renL_fits ρ l]
end
mutual
theorem RV.ren_rel {φ : Phi} {ι ι1 : Nat → Value} {w : World} (ρ : Nat → Nat) : ∀ (r : RV) (v : Value), (∀ i ∈ r.ids, ι1 (ρ i) = ι i) → r.rel φ ι w v → (r.ren ρ).rel φ ι1 w v
  | .undef, _, _, _ => trivial
  | .dat t x, v, _, h => h
  | .clip t xs, v, _, h => h
  | .nilv, _, _, h => h
  | .nils _ _, _, _, h => h
  | .own t o, v, hi, h => by simp only [RV.rel, RV.ren] at h ⊢; rw [hi o (by simp [RV.ids])]; exact h
  | .view t o lo hi', v, hi, h => by simp only [RV.rel, RV.ren] at h ⊢; rw [hi o (by simp [RV.ids])]; exact h
  | .ptr o t i p, v, hi, h => by simp only [RV.rel, RV.ren] at h ⊢; rw [hi o (by simp [RV.ids])]; exact h
  | .fptr t x, v, _, h => h
  | .agg l, v, hi, ⟨cs, e, h⟩ => ⟨cs, e, RV.renL_relL ρ l _ (fun i h => hi i (by simpa [RV.ids] using h)) h⟩
  | .tup l, v, hi, ⟨cs, e, h⟩ => ⟨cs, e, RV.renL_relT ρ l _ (fun i h => hi i (by simpa [RV.ids] using h)) h⟩
  | .fn f a b, v, hi, ⟨x, y, e, h1, h2⟩ => ⟨x, y, e, RV.renL_relT ρ a _ (fun i h => hi i (by simp [RV.ids, h])) h1, RV.renL_relT ρ b _ (fun i h => hi i (by simp [RV.ids, h])) h2⟩
  | .iface T r, v, hi, ⟨u, e, h⟩ => ⟨u, e, RV.ren_rel ρ r u (fun i h => hi i (by simpa [RV.ids] using h)) h⟩
  | .nilI, _, _, h => h
  | .nilF, _, _, h => h
  | .nilP, _, _, h => h
  | .atl _, _, _, h => h
  | .lim .., _, _, h => h
  | .yld Y o, v, hi, h => by simp only [RV.rel, RV.ren] at h ⊢; rw [hi o (by simp [RV.ids])]; exact h
  | .gp .., _, _, h => h
  | .dfr f a b t xs, v, hi, ⟨vs, e, hl, h⟩ => ⟨vs, e, hl, fun i x u hx hu =>
      let ⟨c1, cv, c2, e1, h1, h2, h4⟩ := h i x u hx hu
      ⟨c1, cv, c2, e1, RV.renL_relT ρ a _ (fun i h => hi i (by simp [RV.ids, h])) h1, h2, RV.renL_relT ρ b _ (fun i h => hi i (by simp [RV.ids, h])) h4⟩⟩
theorem RV.renL_relL {φ : Phi} {ι ι1 : Nat → Value} {w : World} (ρ : Nat → Nat) : ∀ (l : List RV) (cs : List Value), (∀ i ∈ RV.idsL l, ι1 (ρ i) = ι i) → RV.relL φ ι w l cs → RV.relL φ ι1 w (RV.renL ρ l) cs
  | [], _, _, h => h
  | r :: l, _, hi, ⟨v, c2, e, h1, h2⟩ => ⟨v, c2, e, RV.ren_rel ρ r v (fun i h => hi i (by simp [RV.idsL, h])) h1, RV.renL_relL ρ l c2 (fun i h => hi i (by simp [RV.idsL, h])) h2⟩
theorem RV.renL_relT {φ : Phi} {ι ι1 : Nat → Value} {w : World} (ρ : Nat → Nat) : ∀ (l : List RV) (vs : List Value), (∀ i ∈ RV.idsL l, ι1 (ρ i) = ι i) → RV.relT φ ι w l vs → RV.relT φ ι1 w (RV.renL ρ l) vs
  | [], _, _, h => h
  | r :: l, _, hi, ⟨v, c2, e, h1, h2⟩ => ⟨v, c2, e, RV.ren_rel ρ r v (fun i h => hi i (by simp [RV.idsL, h])) h1, RV.renL_relT ρ l c2 (fun i h => hi i (by simp [RV.idsL, h])) h2⟩
end
theorem Ob.ren_owns (ρ : Nat → Nat) (b : Ob) : (b.ren ρ).owns = b.owns := by cases b <;> rfl
theorem Ob.ren_live (ρ : Nat → Nat) (b : Ob) : (b.ren ρ).live = b.live := by cases b <;> rfl
theorem Regs.ren_ids (ρ : Nat → Nat) (R : Regs) : (R.ren ρ).ids = R.ids.map ρ := by
  induction R with
  | nil => rfl
  | cons p l ih => simp [Regs.ren, Regs.ids, RV.ren_ids, ih]
theorem Regs.mem_ren {ρ : Nat → Nat} {R : Regs} {q : Nat × RV} (h : q ∈ R.ren ρ) : ∃ x ∈ R, q = (x.1, x.2.ren ρ) := by
  induction R with
  | nil => cases h
  | cons p l ih =>
    rcases List.mem_cons.1 h with rfl | h
    · exact ⟨p, by simp, rfl⟩
    · obtain ⟨x, h1, h2⟩ := ih h
      exact ⟨x, by simp [h1], h2⟩
theorem Ob.ren_ids (ρ : Nat → Nat) (b : Ob) : (b.ren ρ).ids = b.ids.map ρ := by cases b <;> simp [Ob.ren, Ob.ids, RV.ren_ids, Regs.ren_ids]
theorem ORel.ren [Env] {φ : Phi} {ι ι1 : Nat → Value} {w : World} {o o' : Nat} {ob : Ob} (ρ : Nat → Nat) (ho : ι1 o' = ι o) (hi : ∀ i ∈ ob.ids, ι1 (ρ i) = ι i) (h : ORel φ ι w o ob) : ORel φ ι1 w o' (ob.ren ρ) := by
  cases ob with
  | hole => trivial
  | gone => trivial
  | arr e t xs fz =>
    obtain ⟨A, n, c, e1, h⟩ := h
    exact ⟨A, n, c, ho.trans e1, h⟩
  | box T t r =>
    obtain ⟨b, cur, fr, v, e1, h1, h2, h3, h4, h5, h6, h7, h8⟩ := h
    exact ⟨b, cur, fr, v, ho.trans e1, h1, h2, h3, h4, RV.ren_rel ρ r v hi h5, h6, by rw [RV.ren_fits]; exact h7, h8⟩
  | iter s pos =>
    obtain ⟨b, n, e1, h⟩ := h
    exact ⟨b, n, ho.trans e1, h⟩
  | loop Y R p =>
    obtain ⟨l, rec, c, e1, h⟩ := h
    refine ⟨l, rec, c, ho.trans e1, ⟨h.code, h.heap, h.params, h.assign, h.body, h.nt, h.st, fun q hq => ?_, h.phi⟩⟩
    obtain ⟨x, h1, rfl⟩ := Regs.mem_ren hq
    exact RV.ren_rel ρ x.2 _ (fun i hx => hi i (Regs.mem_ids h1 i hx)) (h.regs x h1)

/-- What is gathered. -/
structure Gath (H : List Ob) (done : List Nat) (obs : List Ob) : Prop where
  obs : obs = done.map (getOb H)
  nodup : done.Nodup
  closed : ∀ o ∈ done, ∀ i ∈ (getOb H o).ids, i ∈ done
theorem gather_spec {H : List Ob} {n : Nat} : ∀ (k : Nat) (todo done : List Nat) (obs : List Ob) (q : List Nat × List Ob) (H2 : List Ob) (n2 : Nat), (gather k todo done obs).go H n = some (q, H2, n2) →
    obs = done.map (getOb H) → done.Nodup → (∀ o ∈ done, ∀ i ∈ (getOb H o).ids, i ∈ done ∨ i ∈ todo) → H2 = H ∧ n2 = n ∧ Gath H q.1 q.2 ∧ (∀ i ∈ todo, i ∈ q.1) ∧ (∃ m, q.1 = done ++ m) ∧
      ((∀ o, ∀ i ∈ (getOb H o).ids, (getOb H i).live = true) → (∀ i ∈ todo, (getOb H i).live = true) → (∀ i ∈ done, (getOb H i).live = true) → ∀ i ∈ q.1, (getOb H i).live = true)
  | 0, todo, done, obs, q, H2, n2, e, _, _, _ => by simp [gather, HM.go] at e
  | k + 1, [], done, obs, q, H2, n2, e, ho, hn, hc => by
    simp only [gather] at e
    obtain ⟨rfl, rfl, rfl⟩ := go_ret e
    exact ⟨rfl, rfl, ⟨ho, hn, fun o h i hi => by simpa using hc o h i hi⟩, by simp, ⟨[], by simp⟩, fun _ _ h => h⟩
  | k + 1, o :: todo, done, obs, q, H2, n2, e, ho, hn, hc => by
    simp only [gather] at e
    cases hb : has done o
    · simp only [hb, cond_false, HM.go] at e
      have hnot : o ∉ done := fun h => by rw [has_iff.2 h] at hb; cases hb
      obtain ⟨h1, h2, h3, h4, ⟨m, h5⟩, h6⟩ := gather_spec k _ _ _ q H2 n2 e (by simp [ho]) (by
          rw [List.nodup_append]
          exact ⟨hn, by simp, fun a ha b hb => by simp at hb; subst hb; rintro rfl; exact hnot ha⟩) (fun a ha i hi => by
          rcases List.mem_append.1 ha with ha | ha
          · rcases hc a ha i hi with h | h
            · exact .inl (List.mem_append.2 (.inl h))
            · rcases List.mem_cons.1 h with h | h
              · exact .inl (by simp [h])
              · exact .inr (List.mem_append.2 (.inl h))
          · simp at ha; subst ha; exact .inr (List.mem_append.2 (.inr hi)))
      refine ⟨h1, h2, h3, fun i hi => ?_, ⟨[o] ++ m, by rw [h5]; simp⟩, fun l1 l2 l3 => h6 l1 (fun i hi => ?_) (fun i hi => ?_)⟩
      · rcases List.mem_cons.1 hi with h | h
        · rw [h5, h]; simp
        · exact h4 i (List.mem_append.2 (.inl h))
      · rcases List.mem_append.1 hi with h | h
        · exact l2 i (by simp [h])
        · exact l1 o i h
      · rcases List.mem_append.1 hi with h | h
        · exact l3 i h
        · simp at h; subst h; exact l2 i (by simp)
    · simp only [hb, cond_true] at e
      have hin := has_iff.1 hb
      obtain ⟨h1, h2, h3, h4, h5, h6⟩ := gather_spec k todo done obs q H2 n2 e ho hn (fun a ha i hi => by
          rcases hc a ha i hi with h | h
          · exact .inl h
          · rcases List.mem_cons.1 h with h | h
            · exact .inl (by rw [h]; exact hin)
            · exact .inr h)
      refine ⟨h1, h2, h3, fun i hi => ?_, h5, fun l1 l2 l3 => h6 l1 (fun i hi => l2 i (by simp [hi])) l3⟩
      rcases List.mem_cons.1 hi with h | h
      · obtain ⟨m, h5⟩ := h5; rw [h5, h]; exact List.mem_append.2 (.inl hin)
      · exact h4 i h
/-- What is asked for first comes first. -/
theorem gather_front {H : List Ob} {n : Nat} : ∀ (pre : List Nat) (k : Nat) (rest done : List Nat) (obs : List Ob) (q : List Nat × List Ob) (H2 : List Ob) (n2 : Nat), (gather k (pre ++ rest) done obs).go H n = some (q, H2, n2) →
    (done ++ pre).Nodup → ∃ m, q.1 = done ++ pre ++ m
  | [], k, rest, done, obs, q, H2, n2, e, hn => by
    have : ∀ (k : Nat) (todo done : List Nat) (obs : List Ob), (gather k todo done obs).go H n = some (q, H2, n2) → ∃ m, q.1 = done ++ m := by
      intro k
      induction k with
      | zero => intro todo done obs e; simp [gather, HM.go] at e
      | succ k ih =>
        intro todo done obs e
        cases todo with
        | nil =>
          simp only [gather] at e
          obtain ⟨rfl, -, -⟩ := go_ret e
          exact ⟨[], by simp⟩
        | cons o todo =>
          simp only [gather] at e
          cases hb : has done o
          · simp only [hb, cond_false, HM.go] at e
            obtain ⟨m, hm⟩ := ih _ _ _ e
            exact ⟨[o] ++ m, by rw [hm]; simp⟩
          · simp only [hb, cond_true] at e
            exact ih _ _ _ e
    simpa using this k rest done obs e
  | o :: pre, 0, rest, done, obs, q, H2, n2, e, hn => by simp [gather, HM.go] at e
  | o :: pre, k + 1, rest, done, obs, q, H2, n2, e, hn => by
    simp only [List.cons_append, gather] at e
    have hnot : o ∉ done := fun h => by
      have := (List.nodup_append.1 hn).2.2 o h o (by simp)
      exact this rfl
    have hb : has done o = false := by
      cases h : has done o
      · rfl
      · exact absurd (has_iff.1 h) hnot
    simp only [hb, cond_false, HM.go] at e
    rw [List.append_assoc] at e
    obtain ⟨m, hm⟩ := gather_front pre k _ _ _ q H2 n2 e (by simpa using hn)
    exact ⟨m, by rw [hm]; simp⟩
theorem mem_upto {n i : Nat} : i ∈ upto n ↔ i < n := by
  induction n with
  | zero => simp [upto]
  | succ n ih => simp [upto, ih]; omega
theorem upto_nodup (n : Nat) : (upto n).Nodup := by
  induction n with
  | zero => simp [upto]
  | succ n ih =>
    rw [upto, List.nodup_append]
    exact ⟨ih, by simp, fun a ha b hb => by have := mem_upto.1 ha; simp at hb; omega⟩
theorem upto_get {n i : Nat} (h : i < n) : (upto n)[i]? = some i := by
  induction n with
  | zero => omega
  | succ n ih =>
    have hl : (upto n).length = n := by
      clear h ih
      induction n with
      | zero => rfl
      | succ n ih => simp [upto, ih]
    rw [upto]
    rcases Nat.lt_or_ge i n with h1 | h1
    · rw [List.getElem?_append_left (by omega)]; exact ih h1
    · have : i = n := by omega
      subst this
      rw [List.getElem?_append_right (by omega)]
      simp [hl]
theorem upto_len (n : Nat) : (upto n).length = n := by
  induction n with
  | zero => rfl
  | succ n ih => simp [upto, ih]

section
variable {φ : Phi} {ι : Nat → Value} {w : World} {H : List Ob} {done : List Nat} {obs : List Ob}
/-- The names of a part. -/
def subI (ι : Nat → Value) (done : List Nat) : Nat → Value := fun i => ι (done.getD i 0)
def subH (done : List Nat) (obs : List Ob) : List Ob := obs.map (Ob.ren (idx done))
theorem subI_idx {o : Nat} (h : o ∈ done) : subI ι done (idx done o) = ι o := by
  unfold subI
  rw [List.getD_eq_getElem?_getD, idx_get h]
  rfl
theorem subH_get (g : Gath H done obs) {i o : Nat} (h : done[i]? = some o) : getOb (subH done obs) i = (getOb H o).ren (idx done) := by
  have e := g.obs
  subst e
  simp [subH, getOb, List.getD_eq_getElem?_getD, h]
theorem subH_none (g : Gath H done obs) {i : Nat} (h : done.length ≤ i) : getOb (subH done obs) i = .hole := by
  have e := g.obs
  subst e
  have : done[i]? = none := List.getElem?_eq_none h
  simp [subH, getOb, List.getD_eq_getElem?_getD, this]
theorem sub_owned (g : Gath H done obs) {b : Nat} (h : Owned (subI ι done) (subH done obs) b) : Owned ι H b := by
  obtain ⟨i, h1, h2⟩ := h
  cases hd : done[i]? with
  | none =>
    rw [subH_none g (List.getElem?_eq_none_iff.1 hd)] at h1
    cases h1
  | some o =>
    rw [subH_get g hd, Ob.ren_owns] at h1
    refine ⟨o, h1, ?_⟩
    rw [← h2]
    simp [subI, List.getD_eq_getElem?_getD, hd]
theorem sub_rel [Env] (h : HRel φ ι w H) (g : Gath H done obs) (hl : ∀ o ∈ done, (getOb H o).live = true) : HRel φ (subI ι done) w (subH done obs) := by
  have hi : ∀ {i o : Nat}, done[i]? = some o → subI ι done i = ι o := fun {i o} hd => by simp [subI, List.getD_eq_getElem?_getD, hd]
  refine ⟨fun i => ?_, fun i j b h1 h2 h3 h4 => ?_, h.phi, fun i j hj => ?_, h.glob⟩
  · cases hd : done[i]? with
    | none => rw [subH_none g (List.getElem?_eq_none_iff.1 hd)]; trivial
    | some o =>
      rw [subH_get g hd]
      exact (h.obj o).ren (idx done) (hi hd) fun k hk => subI_idx (g.closed o (List.mem_of_getElem? hd) k hk)
  · cases hd : done[i]? with
    | none => rw [subH_none g (List.getElem?_eq_none_iff.1 hd)] at h1; cases h1
    | some o =>
      cases hd2 : done[j]? with
      | none => rw [subH_none g (List.getElem?_eq_none_iff.1 hd2)] at h2; cases h2
      | some o2 =>
        rw [subH_get g hd, Ob.ren_owns] at h1
        rw [subH_get g hd2, Ob.ren_owns] at h2
        rw [hi hd] at h3
        rw [hi hd2] at h4
        have := h.apart o o2 b h1 h2 h3 h4
        subst this
        rw [← idx_nodup g.nodup hd, ← idx_nodup g.nodup hd2]
  · cases hd : done[i]? with
    | none => rw [subH_none g (List.getElem?_eq_none_iff.1 hd)] at hj; simp [Ob.ids] at hj
    | some o =>
      rw [subH_get g hd, Ob.ren_ids] at hj
      obtain ⟨k, hk, rfl⟩ := List.mem_map.1 hj
      have hk2 := g.closed o (List.mem_of_getElem? hd) k hk
      rw [subH_get g (idx_get hk2), Ob.ren_live]
      exact hl k hk2
theorem sub_live (g : Gath H done obs) (hl : ∀ o ∈ done, (getOb H o).live = true) {l : List Nat} (hin : ∀ i ∈ l, i ∈ done) : ∀ i ∈ l.map (idx done), (getOb (subH done obs) i).live = true := by
  intro i hi
  obtain ⟨k, hk, rfl⟩ := List.mem_map.1 hi
  rw [subH_get g (idx_get (hin k hk)), Ob.ren_live]
  exact hl k (hin k hk)
theorem sub_all (g : Gath H done obs) (hl : ∀ o ∈ done, (getOb H o).live = true) : ∀ i, i < (subH done obs).length → (getOb (subH done obs) i).live = true := by
  intro i hi
  have e := g.obs
  have hi' : i < done.length := by
    rw [subH, e] at hi
    simpa using hi
  have hd : done[i]? = some done[i] := List.getElem?_eq_getElem hi'
  rw [subH_get g hd, Ob.ren_live]
  exact hl _ (List.getElem_mem hi')
theorem sub_step (g : Gath H done obs) : Step φ ι w H φ (subI ι done) w (subH done obs) :=
  ⟨fun _ _ h => h, fun _ _ _ => rfl, fun _ _ h => .inl h, Nat.le_refl _, rfl, rfl, rfl, fun _ _ _ => rfl, fun _ h => .inr (sub_owned g h)⟩
theorem HRel.live_ids [Env] (h : HRel φ ι w H) : ∀ o, ∀ i ∈ (getOb H o).ids, (getOb H i).live = true := by
  exact h.ids
end
end Go.X
/- The engine, part Y: calls of functions. -/
set_option linter.unusedVariables false
set_option linter.unusedSimpArgs false
namespace Go.X
open Go.RowKit

section
variable {P : Program} {cx : Cx} {φ : Phi} {ι : Nat → Value} {w : World} {H : List Ob} {n : Nat} {H' : List Ob} {n' : Nat}
theorem argDat_sound [Env] {r r' : RV} (e : (argDat r).go H n = some (r', H', n')) (h : HRel φ ι w H) {v : Value} (hr : r.rel φ ι w v) (hl : ∀ i ∈ r.ids, (getOb H i).live = true) :
    n' = n ∧ ∃ φ', Ghost φ ι w H φ' H' ∧ r'.rel φ' ι w v ∧ ∀ i ∈ r'.ids, (getOb H' i).live = true := by
  have key : ∀ {x : HM DV}, x = toDat r → (x.bind fun d => HM.ret (RV.dat d.t d.x)).go H n = some (r', H', n') → n' = n ∧ ∃ φ', Ghost φ ι w H φ' H' ∧ r'.rel φ' ι w v ∧ ∀ i ∈ r'.ids, (getOb H' i).live = true := by
    intro x hx e
    subst hx
    obtain ⟨d, H1, n1, e1, e2⟩ := HM.go_bind_some e
    obtain ⟨rfl, rfl, rfl⟩ := go_ret e2
    obtain ⟨h1, φ1, g, hv⟩ := toDat_sound r φ v H n d _ _ e1 h hr hl
    exact ⟨h1, φ1, g, rel_dat hv, by simp [RV.ids]⟩
  unfold argDat at e
  split at e
  · rename_i l
    exact key (x := toDats l) (by simp [toDat]) e
  · exact key rfl e
  · exact key rfl e
  · exact key (x := .ret ⟨.list _, []⟩) (by simp [toDat]) e
  · exact key (x := .ret ⟨.list _, _⟩) (by simp [toDat]) e
  · obtain ⟨rfl, rfl, rfl⟩ := go_ret e
    exact ⟨rfl, φ, Ghost.refl h, hr, hl⟩
theorem argsAct_sound [Env] {f : FuncId} : ∀ (l : List RV) (j : Nat) (vs : List Value) (φ : Phi) (H : List Ob) (n : Nat) (l' : List RV) (H' : List Ob) (n' : Nat), (argsAct cx f j l).go H n = some (l', H', n') → HRel φ ι w H → RV.relT φ ι w l vs → (∀ i ∈ RV.idsL l, (getOb H i).live = true) →
    n' = n ∧ ∃ φ', Ghost φ ι w H φ' H' ∧ RV.relT φ' ι w l' vs ∧ ∀ i ∈ RV.idsL l', (getOb H' i).live = true
  | [], j, vs, φ, H, n, l', H', n', e, h, hr, hl => by
    simp only [argsAct] at e
    obtain ⟨rfl, rfl, rfl⟩ := go_ret e
    exact ⟨rfl, φ, Ghost.refl h, hr, hl⟩
  | r :: l, j, vs, φ, H, n, l', H', n', e, h, ⟨v, m, hv, h1, h2⟩, hl => by
    subst hv
    simp only [argsAct] at e
    obtain ⟨r1, H1, n1, e1, e⟩ := HM.go_bind_some e
    obtain ⟨l1, H2, n2, e2, e⟩ := HM.go_bind_some e
    obtain ⟨rfl, rfl, rfl⟩ := go_ret e
    have hl1 : ∀ i ∈ r.ids, (getOb H i).live = true := fun i hi => hl i (by simp [RV.idsL, hi])
    have q : n1 = n ∧ ∃ φ', Ghost φ ι w H φ' H1 ∧ r1.rel φ' ι w v ∧ ∀ i ∈ r1.ids, (getOb H1 i).live = true := by
      cases hb : cx.rawArg f j
      · simp only [hb, cond_false] at e1
        exact argDat_sound e1 h h1 hl1
      · simp only [hb, cond_true] at e1
        obtain ⟨rfl, rfl, rfl⟩ := go_ret e1
        exact ⟨rfl, φ, Ghost.refl h, h1, hl1⟩
    obtain ⟨rfl, φ1, g1, hr1, hl1'⟩ := q
    obtain ⟨rfl, φ2, g2, hr2, hl2⟩ := argsAct_sound l (j + 1) m φ1 H1 _ l1 _ _ e2 g1.rel (RV.relT_mono g1.step.phi g1.step.cells l m (fun _ _ => rfl) h2) (fun i hi => by rw [g1.live]; exact hl i (by simp [RV.idsL, hi]))
    refine ⟨rfl, φ2, g1.trans g2, ⟨v, m, rfl, RV.rel_mono g2.step.phi g2.step.cells r1 v (fun _ _ => rfl) hr1, hr2⟩, fun i hi => ?_⟩
    simp only [RV.idsL, List.mem_append] at hi
    rcases hi with hi | hi
    · rw [g2.live]; exact hl1' i hi
    · exact hl2 i hi

structure Back (ρ : Nat → Nat) (os : List Nat) (l : List Ob) (H : List Ob) (n : Nat) (H' : List Ob) (n' : Nat) : Prop where
  le : os.length ≤ l.length
  next : n' = n + (l.length - os.length)
  old : ∀ i o, os[i]? = some o → getOb H' o = (getOb l i).ren ρ
  new : ∀ j, j < l.length - os.length → getOb H' (n + j) = (getOb l (os.length + j)).ren ρ
  other : ∀ o, o ∉ os → (o < n ∨ n' ≤ o) → getOb H' o = getOb H o
  len : H.length ≤ H'.length
  top : n' ≤ H'.length
  seq : n = H.length → H'.length = n'
theorem putOb_len_le (H : List Ob) (o : Nat) (b : Ob) (ho : o ≤ H.length) : H.length ≤ (putOb H o b).length ∧ o + 1 ≤ (putOb H o b).length ∧ (o < H.length → (putOb H o b).length = H.length) ∧ (o = H.length → (putOb H o b).length = o + 1) := by
  rcases Nat.lt_or_ge o H.length with h | h
  · have := putOb_len H o b h
    exact ⟨by omega, by omega, fun _ => this, fun h => by omega⟩
  · have : o = H.length := by omega
    subst this
    have := putOb_len' H b
    exact ⟨by omega, by omega, fun h => by omega, fun _ => this⟩
theorem putBack_new {ρ : Nat → Nat} : ∀ (l : List Ob) (H : List Ob) (n : Nat) (u : Unit) (H' : List Ob) (n' : Nat), (putBack ρ [] l).go H n = some (u, H', n') → n ≤ H.length → Back ρ [] l H n H' n'
  | [], H, n, u, H', n', e, hn => by
    simp only [putBack] at e
    obtain ⟨-, rfl, rfl⟩ := go_ret e
    exact ⟨Nat.le_refl _, rfl, by simp, by simp, fun _ _ _ => rfl, Nat.le_refl _, hn, fun h => h.symm⟩
  | b :: l, H, n, u, H', n', e, hn => by
    simp only [putBack, HM.go] at e
    obtain ⟨k1, k2, k3, k4⟩ := putOb_len_le H n (b.ren ρ) hn
    have ih := putBack_new l (putOb H n (b.ren ρ)) (n + 1) u H' n' e k2
    have e1 := ih.next
    simp only [List.length_nil, Nat.sub_zero] at e1
    refine ⟨by simp, by rw [e1]; simp; omega, by simp, fun j hj => ?_, fun o ho h => ?_, Nat.le_trans k1 ih.len, ih.top, fun h => ih.seq (k4 h).symm⟩
    · cases j with
      | zero =>
        rw [Nat.add_zero, ih.other n (by simp) (.inl (by omega)), getOb_put H n _ n hn]
        simp [getOb]
      | succ j =>
        have := ih.new j (by simp at hj ⊢; omega)
        rw [show n + (j + 1) = n + 1 + j by omega, this]
        simp [getOb]
    · rw [ih.other o (by simp) (by omega), getOb_put H n _ o hn]
      rw [if_neg]
      omega
theorem putBack_spec {ρ : Nat → Nat} : ∀ (os : List Nat) (l : List Ob) (H : List Ob) (n : Nat) (u : Unit) (H' : List Ob) (n' : Nat), (putBack ρ os l).go H n = some (u, H', n') → n ≤ H.length → os.Nodup → (∀ o ∈ os, o < H.length ∧ (o < n ∨ n' ≤ o)) → Back ρ os l H n H' n'
  | [], l, H, n, u, H', n', e, hn, _, _ => putBack_new l H n u H' n' e hn
  | o :: os, [], H, n, u, H', n', e, hn, _, _ => by simp [putBack, HM.go] at e
  | o :: os, b :: l, H, n, u, H', n', e, hn, hnd, hlt => by
    simp only [putBack, HM.go] at e
    have ho := (hlt o (by simp)).1
    have hlen := putOb_len H o (b.ren ρ) ho
    have ih := putBack_spec os l (putOb H o (b.ren ρ)) n u H' n' e (by rw [hlen]; exact hn) (by simp at hnd; exact hnd.2) (fun p hp => by rw [hlen]; exact hlt p (by simp [hp]))
    have hno : o ∉ os := by simp at hnd; exact hnd.1
    refine ⟨by simpa using ih.le, by rw [ih.next]; simp, fun i p hp => ?_, fun j hj => ?_, fun p hp h => ?_, by rw [← hlen]; exact ih.len, ih.top, fun h => ih.seq (by rw [hlen]; exact h)⟩
    · cases i with
      | zero =>
        obtain rfl : o = p := by simpa using hp
        rw [ih.other o hno (hlt o (by simp)).2, getOb_put H o _ o (Nat.le_of_lt ho)]
        simp [getOb]
      | succ i =>
        have := ih.old i p (by simpa using hp)
        rw [this]
        simp [getOb]
    · have := ih.new j (by simpa using hj)
      rw [this]
      simp only [List.length_cons, getOb]
      rw [show os.length + 1 + j = (os.length + j) + 1 by omega]
      simp
    · rw [ih.other p (fun h => hp (by simp [h])) h, getOb_put H o _ p (Nat.le_of_lt ho), if_neg]
      rintro rfl; exact hp (by simp)

/-- A part of the objects has been at work elsewhere, and comes back. -/
theorem back_sound [Env] {done : List Nat} {obs L : List Ob} {φ' : Phi} {ι' : Nat → Value} {w' : World} (h : HRel φ ι w H) (g : Gath H done obs) (hl : ∀ o ∈ done, (getOb H o).live = true) (hfr : Free H n n')
    (b : Back (fun i => done.getD i (n + (i - done.length))) done L H n H' n') (h' : HRel φ' ι' w' L) (s : Step φ (subI ι done) w (subH done obs) φ' ι' w' L) (k : Keep (subI ι done) (subH done obs) ι' L) :
    ∃ ι'', HRel φ' ι'' w' H' ∧ Step φ ι w H φ' ι'' w' H' ∧ Keep ι H ι'' H' ∧ Nx H n H' n' ∧ ∀ i, (getOb L i).live = true → ι'' (done.getD i (n + (i - done.length))) = ι' i ∧ (getOb H' (done.getD i (n + (i - done.length)))).live = true := by
  let ρ : Nat → Nat := fun i => done.getD i (n + (i - done.length))
  let ι'' : Nat → Value := fun o => if o ∈ done then ι' (idx done o) else if n ≤ o ∧ o < n' then ι' (done.length + (o - n)) else ι o
  have hle := b.le
  have hnext := b.next
  have hlo : ∀ {H : List Ob} {i : Nat}, (getOb H i).owns = true → (getOb H i).live = true := fun {H i} ho => by cases hob : getOb H i <;> rw [hob] at ho <;> first | rfl | (cases ho)
  have hdn : ∀ o ∈ done, o < n ∨ n' ≤ o := fun o ho => by
    rcases Nat.lt_or_ge o n with h1 | h1
    · exact .inl h1
    · rcases Nat.lt_or_ge o n' with h2 | h2
      · have := hfr.2 o h1 h2; rw [hl o ho] at this; cases this
      · exact .inr h2
  -- of a changed name
  have A : ∀ o, (o ∈ done ∨ (n ≤ o ∧ o < n')) → ∃ i, i < L.length ∧ ρ i = o ∧ ι'' o = ι' i ∧ getOb H' o = (getOb L i).ren ρ := by
    intro o ho
    by_cases hd : o ∈ done
    · refine ⟨idx done o, Nat.lt_of_lt_of_le (idx_lt hd) hle, ?_, by simp [ι'', hd], b.old _ o (idx_get hd)⟩
      simp [ρ, List.getD_eq_getElem?_getD, idx_get hd]
    · have ho := ho.resolve_left hd
      refine ⟨done.length + (o - n), by omega, ?_, by simp [ι'', hd, ho], ?_⟩
      · simp [ρ, List.getD_eq_getElem?_getD]; omega
      · have := b.new (o - n) (by omega)
        rwa [show n + (o - n) = o by omega] at this
  have B : ∀ i, i < L.length → (ρ i ∈ done ∨ (n ≤ ρ i ∧ ρ i < n')) ∧ ι'' (ρ i) = ι' i ∧ getOb H' (ρ i) = (getOb L i).ren ρ := by
    intro i hi
    rcases Nat.lt_or_ge i done.length with h1 | h1
    · have e1 : done[i]? = some (done[i]) := List.getElem?_eq_getElem h1
      have e2 : ρ i = done[i] := by simp [ρ, List.getD_eq_getElem?_getD, e1]
      have hd : done[i] ∈ done := List.getElem_mem h1
      rw [e2]
      exact ⟨.inl hd, by simp [ι'', hd, idx_nodup g.nodup e1], b.old i _ e1⟩
    · have e2 : ρ i = n + (i - done.length) := by simp [ρ, List.getD_eq_getElem?_getD, List.getElem?_eq_none h1]
      have hnd : ρ i ∉ done := fun hd => by rcases hdn _ hd with h | h <;> omega
      refine ⟨.inr (by omega), ?_, ?_⟩
      · have h3 : n ≤ ρ i ∧ ρ i < n' := by omega
        simp only [ι'', hnd, if_false, h3, and_self, if_true]
        rw [e2]; congr 1; omega
      · have := b.new (i - done.length) (by omega)
        rw [e2, this]; congr 2; omega
  have C : ∀ o, ¬ (o ∈ done ∨ (n ≤ o ∧ o < n')) → getOb H' o = getOb H o ∧ ι'' o = ι o := by
    intro o ho
    have h1 : o ∉ done := fun h => ho (.inl h)
    have h2 : ¬ (n ≤ o ∧ o < n') := fun h => ho (.inr h)
    exact ⟨b.other o h1 (by omega), by simp only [ι'', h1, if_false, h2]⟩
  have hiota : ∀ o, (getOb H o).live = true → ι'' o = ι o := by
    intro o ho
    by_cases hd : o ∈ done
    · have e1 := idx_get hd
      have h1 : (getOb (subH done obs) (idx done o)).live = true := by rw [subH_get g e1, Ob.ren_live]; exact ho
      simp only [ι'', hd, if_true]
      rw [k.iota _ h1, subI_idx hd]
    · by_cases hr : n ≤ o ∧ o < n'
      · rw [hfr.2 o hr.1 hr.2] at ho; cases ho
      · exact (C o (by simp [hd, hr])).2
  have hlive : ∀ o, (getOb H o).live = true → (getOb H' o).live = true := by
    intro o ho
    by_cases hd : o ∈ done
    · have e1 := idx_get hd
      have h1 : (getOb (subH done obs) (idx done o)).live = true := by rw [subH_get g e1, Ob.ren_live]; exact ho
      have := k.live _ h1
      rw [b.old _ o e1, Ob.ren_live]; exact this
    · by_cases hr : n ≤ o ∧ o < n'
      · rw [hfr.2 o hr.1 hr.2] at ho; cases ho
      · rw [(C o (by simp [hd, hr])).1]; exact ho
  have hLlt : ∀ {i}, (getOb L i).live = true → i < L.length := fun hi => lt_of_live hi
  -- an object of the call's is no other's
  have hsub : ∀ o bb, ¬ (o ∈ done ∨ (n ≤ o ∧ o < n')) → (getOb H o).owns = true → blk (ι o) = some bb → bb < w.heap.size ∧ ¬ Owned (subI ι done) (subH done obs) bb := by
    intro o bb ho h1 h2
    refine ⟨owned_lt h h1 h2, ?_⟩
    rintro ⟨i, h3, h4⟩
    cases hd : done[i]? with
    | none => rw [subH_none g (List.getElem?_eq_none_iff.1 hd)] at h3; cases h3
    | some o2 =>
      rw [subH_get g hd, Ob.ren_owns] at h3
      have e : subI ι done i = ι o2 := by simp [subI, List.getD_eq_getElem?_getD, hd]
      rw [e] at h4
      have := h.apart o o2 bb h1 h3 h2 h4
      exact ho (.inl (by rw [this]; exact List.mem_of_getElem? hd))
  have hmix : ∀ i j bb, (i ∈ done ∨ (n ≤ i ∧ i < n')) → ¬ (j ∈ done ∨ (n ≤ j ∧ j < n')) → (getOb H' i).owns = true → (getOb H' j).owns = true → blk (ι'' i) = some bb → blk (ι'' j) = some bb → False := by
    intro i j bb hi hj h1 h2 h3 h4
    obtain ⟨x, hx1, hx2, hx3, hx4⟩ := A i hi
    obtain ⟨c1, c2⟩ := C j hj
    rw [c1] at h2
    rw [c2] at h4
    rw [hx4, Ob.ren_owns] at h1
    rw [hx3] at h3
    obtain ⟨k1, k2⟩ := hsub j bb hj h2 h4
    rcases s.own bb ⟨x, h1, h3⟩ with h5 | h5
    · omega
    · exact k2 h5
  have hown' : ∀ bb, Owned ι'' H' bb → w.heap.size ≤ bb ∨ Owned ι H bb := by
    rintro bb ⟨o, h1, h2⟩
    by_cases hC : o ∈ done ∨ (n ≤ o ∧ o < n')
    · obtain ⟨x, hx1, hx2, hx3, hx4⟩ := A o hC
      rw [hx4, Ob.ren_owns] at h1
      rw [hx3] at h2
      exact (s.own bb ⟨x, h1, h2⟩).imp id (sub_owned g)
    · obtain ⟨c1, c2⟩ := C o hC
      rw [c1] at h1
      rw [c2] at h2
      exact .inr ⟨o, h1, h2⟩
  refine ⟨ι'', ⟨fun o => ?_, fun i j bb h1 h2 h3 h4 => ?_, h'.phi, fun o j hj => ?_, h'.glob⟩, ⟨s.phi, s.cells, fun bb kk hb => ?_, s.size, s.os, s.tape, s.output, fun bb hb ho => s.blocks bb hb fun hc => ho (sub_owned g hc), hown'⟩, ⟨hiota, hlive⟩, ⟨by omega, b.len, fun _ => b.top, fun i hi => ?_, b.seq⟩, fun i hi => ?_⟩
  · by_cases hC : o ∈ done ∨ (n ≤ o ∧ o < n')
    · obtain ⟨x, hx1, hx2, hx3, hx4⟩ := A o hC
      rw [hx4]
      exact (h'.obj x).ren ρ hx3 fun j hj => (B j (hLlt (h'.live_ids x j hj))).2.1
    · obtain ⟨c1, c2⟩ := C o hC
      rw [c1]
      refine (h.obj o).keep s.phi s.cells (fun _ => c2) (fun j hj => hiota j (h.live_ids o j hj)) fun bb ho hb => ?_
      obtain ⟨k1, k2⟩ := hsub o bb hC ho hb
      refine ⟨s.blocks bb k1 k2, fun kk hk => ?_⟩
      rcases s.newphi bb kk hk with h1 | h1 | h1
      · exact h1
      · omega
      · exact absurd h1 k2
  · by_cases hC : i ∈ done ∨ (n ≤ i ∧ i < n')
    · by_cases hD : j ∈ done ∨ (n ≤ j ∧ j < n')
      · obtain ⟨x, hx1, hx2, hx3, hx4⟩ := A i hC
        obtain ⟨y, hy1, hy2, hy3, hy4⟩ := A j hD
        rw [hx4, Ob.ren_owns] at h1
        rw [hy4, Ob.ren_owns] at h2
        rw [hx3] at h3
        rw [hy3] at h4
        have := h'.apart x y bb h1 h2 h3 h4
        subst this
        rw [← hx2, ← hy2]
      · exact (hmix i j bb hC hD h1 h2 h3 h4).elim
    · by_cases hD : j ∈ done ∨ (n ≤ j ∧ j < n')
      · exact (hmix j i bb hD hC h2 h1 h4 h3).elim
      · obtain ⟨c1, c2⟩ := C i hC
        obtain ⟨d1, d2⟩ := C j hD
        rw [c1] at h1
        rw [d1] at h2
        rw [c2] at h3
        rw [d2] at h4
        exact h.apart i j bb h1 h2 h3 h4
  · by_cases hC : o ∈ done ∨ (n ≤ o ∧ o < n')
    · obtain ⟨x, hx1, hx2, hx3, hx4⟩ := A o hC
      have hj2 : j ∈ ((getOb L x).ren ρ).ids := by rw [← hx4]; exact hj
      rw [Ob.ren_ids] at hj2
      obtain ⟨y, hy, rfl⟩ := List.mem_map.1 hj2
      have hyl := h'.live_ids x y hy
      rw [(B y (hLlt hyl)).2.2, Ob.ren_live]
      exact hyl
    · rw [(C o hC).1] at hj
      exact hlive j (h.ids o j hj)
  · rcases s.newphi bb kk hb with h1 | h1 | h1
    · exact .inl h1
    · exact .inr (.inl h1)
    · exact .inr (.inr (sub_owned g h1))
  · by_cases hd : i ∈ done
    · rw [hl i hd, hlive i (hl i hd)]
    · rw [(C i (by simp [hd]; omega)).1]
  · have := B i (hLlt hi)
    refine ⟨this.2.1, ?_⟩
    rw [this.2.2, Ob.ren_live]
    exact hi
/-- A call of a function. -/
theorem callAct_sound [Env] {Γ : Gam} (hG : GSound P Γ) {f : FuncId} {args : List RV} {vs : Array Value} {r : RV} (e : (callAct cx Γ f args).go H n = some (r, H', n')) (h : HRel φ ι w H) (ha : RV.relT φ ι w args vs.toList) (la : ∀ i ∈ RV.idsL args, (getOb H i).live = true) (hfr : Free H n n') :
    Does P f vs w fun e w' => ∃ v φ' ι', e = .returned v ∧ HRel φ' ι' w' H' ∧ Step φ ι w H φ' ι' w' H' ∧ Keep ι H ι' H' ∧ Nx H n H' n' ∧ r.rel φ' ι' w' v ∧ (∀ i ∈ r.ids, (getOb H' i).live = true) := by
  unfold callAct at e
  obtain ⟨args', H1, n1, e1, ea⟩ := HM.go_bind_some e
  clear e
  obtain ⟨rfl, φ1, g1, ha1, la1⟩ := argsAct_sound args 0 vs.toList φ H n args' H1 n1 e1 h ha la
  obtain ⟨q0, H2, n2, e2, eb⟩ := HM.go_bind_some ea
  clear ea
  have q1 := gather_spec 200 _ [] [] q0 H2 n2 e2 rfl (by simp) (by simp)
  clear e2
  obtain ⟨done, obs⟩ := q0
  obtain ⟨h1, h2, gg, hin, -, hlv⟩ := q1
  subst h1 h2
  have hld := hlv g1.rel.live_ids la1 (by simp)
  simp only at gg hin hld eb
  obtain ⟨⟨r1, L⟩, H3, n3, e3, ec⟩ := HM.go_bind_some eb
  clear eb
  rw [HM.go_ofDT] at e3
  obtain ⟨q, hq, e3⟩ := Option.map_eq_some_iff.1 e3
  simp only [Prod.mk.injEq] at e3
  obtain ⟨rfl, rfl, rfl⟩ := e3
  simp only [HM.go] at ec
  obtain ⟨u, H4, n4, e4, ed⟩ := HM.go_bind_some ec
  clear ec
  obtain ⟨rfl, rfl, rfl⟩ := go_ret ed
  have hc := hG _ _ _ _ _ hq
  have hfr1 : Free H2 n2 n' := hfr.ghost g1
  have hB := putBack_spec done L H2 n2 u H' n' e4 hfr1.1 gg.nodup fun o ho => ⟨lt_of_live (hld o ho), by
    rcases Nat.lt_or_ge o n2 with h1 | h1
    · exact .inl h1
    · rcases Nat.lt_or_ge o n' with h2 | h2
      · have := hfr1.2 o h1 h2; rw [hld o ho] at this; cases this
      · exact .inr h2⟩
  have hcall := hc φ1 (subI ι done) w vs (sub_rel g1.rel gg hld) (fun i hi => sub_all gg hld i hi) (RV.renL_relT (idx done) args' _ (fun i hi => subI_idx (hin i hi)) ha1) (by
    rw [RV.renL_ids]
    exact sub_live gg hld hin)
  refine Does.mono hcall fun e w' => ?_
  rintro ⟨v, φ', ι', he, h', s, k, hr, hl⟩
  obtain ⟨ι'', b1, b2, b3, b4, b5⟩ := back_sound g1.rel gg hld hfr1 hB h' s k
  refine ⟨v, φ', ι'', he, b1, g1.step.trans b2, g1.keep.trans b3, (g1.nx n2).trans b4, RV.ren_rel _ r1 v (fun i hi => (b5 i (hl i hi)).1) hr, fun i hi => ?_⟩
  rw [RV.ren_ids] at hi
  obtain ⟨j, hj, rfl⟩ := List.mem_map.1 hi
  exact (b5 j (hl j hj)).2
end
end Go.X
/- The engine, part Z: one operation of a region; regions in the order of the text. -/
set_option linter.unusedVariables false
set_option linter.unusedSimpArgs false
namespace Go.X
open Go.RowKit

theorem beq_ne {e d : Nat} (h : ¬ e = d) : Nat.beq e d = false := by
  cases hb : Nat.beq e d
  · rfl
  · exact absurd (Nat.eq_of_beq_eq_true hb) h
theorem Regs.get_put (R : Regs) (d : Nat) (r : RV) (e : Nat) : (R.put d r).get e = if e = d then some r else R.get e := by
  induction R with
  | nil =>
    simp only [Regs.put, Regs.get]
    by_cases h : e = d
    · subst h; simp
    · have : Nat.beq e d = false := beq_ne h
      simp [this, h]
  | cons p l ih =>
    obtain ⟨k, s⟩ := p
    simp only [Regs.put]
    cases h1 : Nat.beq d k
    · cases h2 : Nat.blt d k
      · simp only [cond_false, Regs.get]
        rw [ih]
        cases h3 : Nat.beq e k
        · rfl
        · have e1 : e = k := by simpa using h3
          have : ¬ e = d := by
            rintro rfl
            rw [e1] at h1
            simp at h1
          simp [this]
      · simp only [cond_false, cond_true, Regs.get]
        by_cases h : e = d
        · subst h; simp
        · have : Nat.beq e d = false := beq_ne h
          simp [this, h]
    · have e1 : d = k := by simpa using h1
      subst e1
      simp only [cond_true, Regs.get]
      by_cases h : e = d
      · subst h; simp
      · have : Nat.beq e d = false := beq_ne h
        simp [this, h]
/-- What is known of an activation: how many temporaries it has; where its own blocks begin; the calls that were deferred ahead; the round. -/
structure NT where
  n : Nat
  base : Nat
  D : List Deferred
  ro : Option Nat
  /-- no ranges over functions here, but calls may be deferred -/
  nm : Bool
/-- Ranges over functions may stand here. -/
def NT.rf (nt : NT) : Prop := nt.ro = none ∧ nt.nm = false
/-- Calls may be deferred here. -/
def NT.df (nt : NT) : Prop := nt.ro = none ∧ nt.nm = true ∧ nt.D = []
def mark (r : Nat) : Deferred := { target := .collected r, args := #[] }
def unclo (d : Deferred) : Value := match d.target with
  | .fn f y => .func f d.args y
  | _ => undef
/-- The deferred calls: marks of ranges over functions, and what was there; or calls of functions. -/
def Marks (nt : NT) (w : World) (Own : Nat → Prop) (ds : List Deferred) : Prop :=
  nt.base ≤ w.heap.size ∧ (nt.nm = false → ∃ ms : List Nat, ds = ms.map mark ++ nt.D ∧ ms.Nodup ∧ ∀ r ∈ ms, nt.base ≤ r ∧ w.heap[r]? = some (.deferred (some [])) ∧ ¬ Own r)
/-- What a register is at the machine. -/
def tmv (a : Act) (d : Nat) : Value := bif Nat.beq d gd then .tuple (a.defers.map unclo).toArray else a.tmps.getD d undef
theorem tmv_lt {a : Act} {d : Nat} (h : d ≠ gd) : tmv a d = a.tmps.getD d undef := by
  have : Nat.beq d gd = false := beq_ne h
  simp [tmv, this]
theorem tmv_gd {a : Act} : tmv a gd = .tuple (a.defers.map unclo).toArray := by
  have : Nat.beq gd gd = true := Nat.beq_refl gd
  simp [tmv, this]
theorem Marks.step {nt : NT} {φ : Phi} {ι : Nat → Value} {w : World} {H : List Ob} {φ' : Phi} {ι' : Nat → Value} {w' : World} {H' : List Ob} {ds : List Deferred} (m : Marks nt w (Owned ι H) ds) (s : Step φ ι w H φ' ι' w' H') : Marks nt w' (Owned ι' H') ds := by
  obtain ⟨h0, m⟩ := m
  refine ⟨Nat.le_trans h0 s.size, fun hn => ?_⟩
  obtain ⟨ms, h1, h2, h3⟩ := m hn
  refine ⟨ms, h1, h2, fun r hr => ?_⟩
  obtain ⟨k1, k2, k3⟩ := h3 r hr
  have hlt := (Array.getElem?_eq_some_iff.1 k2).1
  exact ⟨k1, (s.blocks r hlt k3).trans k2, fun h => (s.own r h).elim (fun h4 => by omega) k3⟩
/-- A state of the evaluator, and the machine's. -/
structure SRel [Env] (φ : Phi) (ι : Nat → Value) (w : World) (N : NT) (st : St) (a : Act) : Prop where
  heap : HRel φ ι w st.heap
  regs : ∀ d r, st.regs.get d = some r → r.rel φ ι w (tmv a d) ∧ ∀ i ∈ r.ids, (getOb st.heap i).live = true
  nt : a.tmps.size = N.n
  small : N.n ≤ gd
  defers : Marks N w (Owned ι st.heap) a.defers
def isDf (o : Oper) : Bool := match o.op with
  | .defer _ => true
  | _ => false
theorem cast_self0 {t : Ty} {x : t.den} : t.cast? t x = some x := by simp [Ty.cast?]
def dstOk (nt : Nat) (o : Oper) : Bool := match o.dst with
  | some d => Nat.blt d nt
  | none => true

section
variable {P : Program} {cx : Cx} {Γ : Gam} {φ : Phi} {ι : Nat → Value} {w : World} {nt : NT} {st : St} {a : Act} {n n' : Nat}
theorem const_rel (v : Value) : (constRV v).rel φ ι w v ∧ (constRV v).ids = [] := by
  unfold constRV
  split
  · exact ⟨rel_dat (VR.bool.2 rfl), rfl⟩
  · exact ⟨rel_dat (VR.int.2 rfl), rfl⟩
  · rename_i s
    refine ⟨rel_dat (VR.str.2 ?_), rfl⟩
    congr 1
  · exact ⟨rfl, rfl⟩
  · exact ⟨rfl, rfl⟩
  · exact ⟨rfl, rfl⟩
  · exact ⟨rfl, rfl⟩
  · exact ⟨trivial, rfl⟩
theorem SRel.eval [Env] (s : SRel φ ι w nt st a) : EvOk φ ι w st.heap (evalO st.regs) a.eval := by
  intro x
  cases x with
  | tmp t =>
    simp only [evalO, Act.eval]
    cases hb : Nat.beq t gd with
    | true => exact ⟨trivial, by simp [RV.ids]⟩
    | false =>
      simp only [cond_false]
      cases h : st.regs.get t with
      | none => exact ⟨trivial, by simp [RV.ids]⟩
      | some r =>
        have := s.regs t r h
        rw [tmv_lt (fun e => by subst e; simp at hb)] at this
        exact this
  | const v =>
    have := const_rel (φ := φ) (ι := ι) (w := w) v
    exact ⟨this.1, by simp only [evalO]; rw [this.2]; simp⟩
  | global g =>
    simp only [evalO, Act.eval]
    cases h : Env.glob g with
    | nil => exact ⟨trivial, by simp [RV.ids]⟩
    | cons x l =>
      have := s.heap.glob g
      rw [h] at this
      exact ⟨⟨rfl, this⟩, by simp [RV.ids]⟩
  | func f => exact ⟨rel_fn ⟨#[], #[], rfl, rfl, rfl⟩, by simp [evalO, RV.ids, RV.idsL]⟩
theorem SRel.after [Env] {φ' : Phi} {ι' : Nat → Value} {w' : World} {H' : List Ob} (s : SRel φ ι w nt st a) (h' : HRel φ' ι' w' H') (t : Step φ ι w st.heap φ' ι' w' H') (k : Keep ι st.heap ι' H')
    {dst : Option Tmp} {r : RV} {v : Value} (hd : ∀ d, dst = some d → d < nt.n) (hr : r.rel φ' ι' w' v) (hl : ∀ i ∈ r.ids, (getOb H' i).live = true) : SRel φ' ι' w' nt ⟨putDst st.regs dst r, H'⟩ (a.put dst v) := by
  have old : ∀ e x, st.regs.get e = some x → x.rel φ' ι' w' (tmv a e) ∧ ∀ i ∈ x.ids, (getOb H' i).live = true := fun e x hx =>
    ⟨RV.rel_step t k (s.regs e x hx).2 (s.regs e x hx).1, fun i hi => k.live i ((s.regs e x hx).2 i hi)⟩
  cases dst with
  | none => exact ⟨h', old, s.nt, s.small, s.defers.step t⟩
  | some d =>
    refine ⟨h', fun e x hx => ?_, by simp [Act.put, s.nt], s.small, s.defers.step t⟩
    have hx : (st.regs.put d r).get e = some x := hx
    rw [Regs.get_put] at hx
    by_cases he : e = d
    · subst he
      simp only [if_true, Option.some.injEq] at hx
      subst hx
      have hlt : e < a.tmps.size := by rw [s.nt]; exact hd e rfl
      have : tmv (a.put (some e) v) e = v := by
        rw [tmv_lt (by have := s.small; have := s.nt; omega)]
        simp [Act.put, Array.getD_eq_getD_getElem?, hlt]
      rw [this]
      exact ⟨hr, hl⟩
    · simp only [he, if_false] at hx
      have : tmv (a.put (some d) v) e = tmv a e := by
        have hne : d ≠ e := fun h => he h.symm
        simp [tmv, Act.put, Array.getD_eq_getD_getElem?, Array.getElem?_setIfInBounds, hne]
      rw [this]
      exact old e x hx
/-- All operations. -/
theorem opAct_full [Env] (tab : TabOK P cx) (hG : GSound P Γ) {o : Oper} {ev : Operand → RV} {H : List Ob} {r : RV} {H' : List Ob} (e : (opAct cx Γ o ev).go H n = some (r, H', n')) (h : HRel φ ι w H) (hev : EvOk φ ι w H ev a.eval) (hfr : Free H n n') : Nxt P o a φ ι w H n r H' n' := by
  have hnd : ∀ c, o.op = .call c → ∀ d, o.op ≠ .defer d := fun c hc d hd => by rw [hc] at hd; cases hd
  refine opAct_sound tab (fun c x g l m ho hc hx hr e => ?_) (fun c x nm T r1 i f ho hc hx hi hf hr e => ?_) (fun c x Y o1 ho hc hx hr e => ?_) e h hev hfr
  case refine_3 =>
    have hxr := (hev x).1
    have hxl := (hev x).2
    rw [hx] at hxr hxl
    have hxr2 := hxr
    obtain ⟨-, l, hv⟩ := hxr2
    have h3 : RV.relT φ ι w (typs cx c.argTypes.toList (c.args.toList.map ev)) (c.args.map a.eval).toList := by simpa using typs_rel (cx := cx) c.argTypes.toList _ _ (relT_of hev c.args.toList)
    have hrel : RV.relT φ ι w (.yld Y o1 :: typs cx c.argTypes.toList (c.args.toList.map ev)) (#[a.eval x] ++ c.args.map a.eval).toList := by
      rw [Array.toList_append]
      exact ⟨a.eval x, _, rfl, hxr, h3⟩
    have hlv : ∀ i ∈ RV.idsL (.yld Y o1 :: typs cx c.argTypes.toList (c.args.toList.map ev)), (getOb H i).live = true := by
      intro i hi
      simp only [RV.idsL, List.mem_append] at hi
      rcases hi with hi | hi
      · exact hxl i hi
      · exact liveT_of hev _ i (typs_ids _ _ i hi)
    obtain ⟨l', hl0, fn, tmps, assign, body, hy, hR⟩ := (Does.round hr).1 (callAct_sound hG e h hrel hlv hfr)
    have hl' : l' = l := by
      have : (#[a.eval x] ++ c.args.map a.eval)[0]? = some (a.eval x) := by
        rw [Array.getElem?_append_left (by exact Nat.zero_lt_one)]
        rfl
      rw [this, hv] at hl0
      simpa using hl0.symm
    subst hl'
    have hext : (#[a.eval x] ++ c.args.map a.eval).extract 1 (#[a.eval x] ++ c.args.map a.eval).size = c.args.map a.eval := by
      rw [Array.extract_append]
      simp
    rw [hext] at hy
    intro ro next Q k
    refine wpIn_of (hnd c ho) ?_
    have he : (execOp a.eval o).run P w = .ok (.round l' fn tmps assign body) w := by
      simp only [execOp, ho, resolve, hc, hv, Deferred.ofValue, pure_bind, invoke]
      simpa using hy
    rw [he, Oper.uponIn_round]
    refine ⟨fun h => (by cases h), RoundIn.mono (R := _) (show RoundIn (FW ro) 0 P l' fn tmps assign body w _ from hR) fun e w' => ?_⟩
    rintro ⟨v, φ', ι', rfl, b1, b2, b3, b4, b5, b6⟩
    exact k v w' φ' ι' b1 b2 b3 b4 b5 b6
  case refine_2 =>
    have hxr := (hev x).1
    have hxl := (hev x).2
    rw [hx] at hxr hxl
    obtain ⟨u, hv, h1⟩ := hxr
    have h3 : RV.relT φ ι w (typs cx c.argTypes.toList (c.args.toList.map ev)) (c.args.map a.eval).toList := by simpa using typs_rel (cx := cx) c.argTypes.toList _ _ (relT_of hev c.args.toList)
    have hrel : RV.relT φ ι w (r1 :: typs cx c.argTypes.toList (c.args.toList.map ev)) (#[u] ++ c.args.map a.eval).toList := by
      rw [Array.toList_append]
      exact ⟨u, _, rfl, h1, h3⟩
    have hlv : ∀ i ∈ RV.idsL (r1 :: typs cx c.argTypes.toList (c.args.toList.map ev)), (getOb H i).live = true := by
      intro i hi
      simp only [RV.idsL, List.mem_append] at hi
      rcases hi with hi | hi
      · exact hxl i (by simp [RV.ids, hi])
      · exact liveT_of hev _ i (typs_ids _ _ i hi)
    have q := (Does.call hr).1 (callAct_sound hG e h hrel hlv hfr)
    intro ro next Q k
    refine wpIn_of (hnd c ho) ?_
    have hm := (tab T i hi).meth nm f hf u w
    have he : (execOp a.eval o).run P w = (callFunc f (#[u] ++ c.args.map a.eval)).run P w := by
      have hget : (#[Value.iface T u] ++ c.args.map a.eval)[0]? = some (.iface T u) := by
        rw [Array.getElem?_append_left (by exact Nat.zero_lt_one)]
        rfl
      have hext : (#[Value.iface T u] ++ c.args.map a.eval).extract 1 (#[Value.iface T u] ++ c.args.map a.eval).size = c.args.map a.eval := by
        rw [Array.extract_append]
        simp
      simp only [execOp, ho, resolve, hc, hv, pure_bind, invoke, hget, hext, callMethod, Sem.run_bind, run_program, Result.andThen_ok]
      rw [hm]
      rfl
    rw [he]
    rcases q with ⟨q1, q2⟩ | ⟨v0, w', q1, v, φ', ι', he', b1, b2, b3, b4, b5, b6⟩
    · rw [q1]
      rw [Oper.uponIn_enter]
      refine ⟨fun h => (by cases h), callsIn_of ro (Calls.mono q2 fun e w' => ?_)⟩
      rintro ⟨v, φ', ι', rfl, b1, b2, b3, b4, b5, b6⟩
      exact k v w' φ' ι' b1 b2 b3 b4 b5 b6
    · injection he' with he'
      subst he'
      rw [q1]
      rw [Oper.uponIn_value]
      exact k _ w' φ' ι' b1 b2 b3 b4 b5 b6
  have hxr := (hev x).1
  have hxl := (hev x).2
  rw [hx] at hxr hxl
  obtain ⟨xs, ys, hv, h1, h2⟩ := hxr
  have hrel : RV.relT φ ι w (l ++ typs cx c.argTypes.toList (c.args.toList.map ev) ++ m) ((xs ++ c.args.map a.eval) ++ ys).toList := by
    have app : ∀ (l m : List RV) (xs ys : List Value), RV.relT φ ι w l xs → RV.relT φ ι w m ys → RV.relT φ ι w (l ++ m) (xs ++ ys) := by
      intro l
      induction l with
      | nil => intro m xs ys h1 h2; simp only [RV.relT] at h1; subst h1; exact h2
      | cons r l ih => intro m xs ys h1 h2; obtain ⟨v, m', rfl, h3, h4⟩ := h1; exact ⟨v, m' ++ ys, rfl, h3, ih m m' ys h4 h2⟩
    have h3 : RV.relT φ ι w (typs cx c.argTypes.toList (c.args.toList.map ev)) (c.args.map a.eval).toList := by simpa using typs_rel (cx := cx) c.argTypes.toList _ _ (relT_of hev c.args.toList)
    rw [Array.toList_append, Array.toList_append]
    exact app _ _ _ _ (app _ _ _ _ h1 h3) h2
  have hlv : ∀ i ∈ RV.idsL (l ++ typs cx c.argTypes.toList (c.args.toList.map ev) ++ m), (getOb H i).live = true := by
    have app : ∀ (l m : List RV), RV.idsL (l ++ m) = RV.idsL l ++ RV.idsL m := by
      intro l m
      induction l with
      | nil => rfl
      | cons r l ih => simp [RV.idsL, ih]
    intro i hi
    rw [app, app] at hi
    simp only [List.mem_append] at hi
    rcases hi with (hi | hi) | hi
    · exact hxl i (by simp [RV.ids, hi])
    · exact liveT_of hev _ i (typs_ids _ _ i hi)
    · exact hxl i (by simp [RV.ids, hi])
  have q := (Does.call hr).1 (callAct_sound hG e h hrel hlv hfr)
  intro ro next Q k
  refine wpIn_of (hnd c ho) ?_
  have he : execOp a.eval o = callFunc g ((xs ++ c.args.map a.eval) ++ ys) := by
    simp only [execOp, ho, resolve, hc, hv, Deferred.ofValue, pure_bind, invoke]
  rw [he]
  rcases q with ⟨q1, q2⟩ | ⟨v0, w', q1, v, φ', ι', he', b1, b2, b3, b4, b5, b6⟩
  · rw [q1]
    rw [Oper.uponIn_enter]
    refine ⟨fun h => (by cases h), callsIn_of ro (Calls.mono q2 fun e w' => ?_)⟩
    rintro ⟨v, φ', ι', rfl, b1, b2, b3, b4, b5, b6⟩
    exact k v w' φ' ι' b1 b2 b3 b4 b5 b6
  · injection he' with he'
    subst he'
    rw [q1]
    rw [Oper.uponIn_value]
    exact k _ w' φ' ι' b1 b2 b3 b4 b5 b6
theorem asBool_get {R : Regs} {d : Nat} {b : Bool} (h : (R.get d).bind asBool? = some b) : R.get d = some (.dat .bool b) := by
  obtain ⟨x, hx, hb⟩ := Option.bind_eq_some_iff.1 h
  unfold asBool? at hb
  split at hb
  · obtain rfl := Option.some.inj hb
    exact hx
  · cases hb
theorem refine_get {R : Regs} {d : Nat} {b : Bool} (h : R.get d = some (.dat .bool b)) (e : Nat) : (refine R d b).get e = R.get e := by
  unfold refine
  rw [Regs.get_put]
  split
  · rename_i he; rw [he, h]
  · rfl
theorem SRel.regs_eq [Env] {R' : Regs} (s : SRel φ ι w nt st a) (h : ∀ e, R'.get e = st.regs.get e) : SRel φ ι w nt ⟨R', st.heap⟩ a :=
  ⟨s.heap, fun d r hd => s.regs d r (by rw [← h d]; exact hd), s.nt, s.small, s.defers⟩
theorem rel_undef : (RV.tup []).rel φ ι w undef := ⟨#[], rfl, rfl⟩
theorem stepAct_act [Env] {o : Oper} {q : St × Nat × FP} (e : (stepAct cx Γ o st n).val = some q) :
    ∃ r, (opAct cx Γ o (evalO st.regs)).go st.heap n = some (r, q.1.heap, q.2.1) ∧ q.1.regs = putDst st.regs o.dst r := by
  unfold stepAct at e
  obtain ⟨⟨r, h, m, p⟩, e1, e2⟩ := DT.val_bind_some e
  simp only [DT.val, Option.some.injEq] at e2
  subst e2
  exact ⟨r, HM.go_run _ _ _ _ _ _ _ _ e1, rfl⟩
theorem yielded_bool {ops : Array Oper} {j d : Nat} {b : Bool} (hj : (ops[j]?).bind (·.dst) = some d) (h : a.tmps.getD d undef = .bool b) : yielded ops a.tmps j = some b := by
  have h1 : a.tmps[d]? = some (.bool b) := by
    rw [Array.getD_eq_getD_getElem?] at h
    cases h2 : a.tmps[d]? with
    | none => rw [h2] at h; simp [undef] at h
    | some v => rw [h2] at h; simpa using h
  simp [yielded, hj, h1]
/-- One operation of a region. -/
theorem stepOp_sound [Env] (tab : TabOK P cx) (hG : GSound P Γ) {ops : Array Oper} {o : Oper} {q : St × Nat × FP} (e : (stepOp cx Γ ops o st n).val = some q) (s : SRel φ ι w nt st a) (hfr : Free st.heap n q.2.1) (hd : dstOk nt.n o = true)
    {K : Act → World → Prop} {Q : Exit → Act → World → Prop}
    (k : ∀ a' w' φ' ι', SRel φ' ι' w' nt q.1 a' → Step φ ι w st.heap φ' ι' w' q.1.heap → Keep ι st.heap ι' q.1.heap → Nx st.heap n q.1.heap q.2.1 → K a' w') :
    if Region.wanted o (yielded ops a.tmps) then o.wpIn (FW nt.ro) 0 P a w K Q else K (a.put o.dst undef) w := by
  have hd' : ∀ d, o.dst = some d → d < nt.n := fun d h => by simpa [dstOk, h] using hd
  have act : ∀ (st0 : St) (q : St × Nat × FP), SRel φ ι w nt st0 a → st0.heap = st.heap → (stepAct cx Γ o st0 n).val = some q → Free st.heap n q.2.1 →
      (∀ a' w' φ' ι', SRel φ' ι' w' nt q.1 a' → Step φ ι w st.heap φ' ι' w' q.1.heap → Keep ι st.heap ι' q.1.heap → Nx st.heap n q.1.heap q.2.1 → K a' w') → o.wpIn (FW nt.ro) 0 P a w K Q := by
    intro st0 q s0 hh e hfr k
    obtain ⟨r, e1, e2⟩ := stepAct_act e
    rw [← hh] at hfr
    refine opAct_full tab hG e1 s0.heap s0.eval hfr nt.ro K Q fun v w' φ' ι' h1 h2 h3 h4 h5 h6 => ?_
    have := s0.after h1 h2 h3 hd' h5 h6
    rw [← e2] at this
    rw [hh] at h2 h3 h4
    exact k _ _ φ' ι' this h2 h3 h4
  unfold stepOp at e
  split at e
  · rename_i hg
    have hw : Region.wanted o (yielded ops a.tmps) = true := by simp [Region.wanted, hg]
    rw [if_pos hw]
    exact act st q s rfl e hfr k
  · rename_i j want hg
    split at e
    · rename_i d hj
      split at e
      · rename_i b hb
        have hget := asBool_get hb
        have hne : d ≠ gd := fun h => by
          have := VR.bool.1 (s.regs d _ hget).1
          rw [h, tmv_gd] at this
          cases this
        have hy := yielded_bool hj (VR.bool.1 (by have := (s.regs d _ hget).1; rw [tmv_lt hne] at this; exact this))
        have hw : Region.wanted o (yielded ops a.tmps) = iff_ b want := by
          simp only [Region.wanted, hg, hy]
          cases b <;> cases want <;> rfl
        rw [hw]
        cases hi : iff_ b want
        · have hbw : b = !want := by cases b <;> cases want <;> first | rfl | cases hi
          simp only [hi, DT.val, cond_false, Option.some.injEq] at e
          subst e
          simp only [Bool.false_eq_true, if_false]
          have s0 := s.regs_eq (R' := refine st.regs d (!want)) (refine_get (by rw [hget, hbw]))
          exact k _ _ φ ι (s0.after s0.heap (Step.refl _ _ _ _) (Keep.refl _ _) hd' rel_undef (by simp [RV.ids, RV.idsL])) (Step.refl _ _ _ _) (Keep.refl _ _) (Nx.refl _ _)
        · have hbw : b = want := by cases b <;> cases want <;> first | rfl | cases hi
          simp only [hi, DT.val, cond_true] at e
          simp only [if_true]
          exact act ⟨refine st.regs d want, st.heap⟩ q (s.regs_eq (refine_get (by rw [hget, hbw]))) rfl e hfr k
      · split at e
        · rename_i hb hget
          obtain ⟨vs, hv, hvs⟩ := (s.regs d _ hget).1
          have hvs : vs = #[] := by cases vs; simpa [RV.relT] using hvs
          subst hvs
          have hy : yielded ops a.tmps j = none := by
            unfold yielded
            rw [hj]
            simp only [Option.bind_some]
            split
            · rename_i c hc
              have hlt := (Array.getElem?_eq_some_iff.1 hc).1
              rw [tmv_lt (by have := s.small; have := s.nt; omega), Array.getD_eq_getD_getElem?, hc] at hv
              cases hv
            · rfl
          have hw : Region.wanted o (yielded ops a.tmps) = false := by
            simp only [Region.wanted, hg, hy]
            rfl
          rw [hw]
          simp only [DT.val, Option.some.injEq] at e
          subst e
          simp only [Bool.false_eq_true, if_false]
          exact k _ _ φ ι (s.after s.heap (Step.refl _ _ _ _) (Keep.refl _ _) hd' rel_undef (by simp [RV.ids, RV.idsL])) (Step.refl _ _ _ _) (Keep.refl _ _) (Nx.refl _ _)
        · simp [DT.val] at e
    · simp [DT.val] at e
theorem getOb_over {H : List Ob} {i : Nat} (h : H.length ≤ i) : getOb H i = .hole := by simp [getOb, List.getD_eq_getElem?_getD, List.getElem?_eq_none h]
theorem free_top (H : List Ob) (n' : Nat) : Free H H.length n' := ⟨Nat.le_refl _, fun i h _ => by rw [getOb_over h]; rfl⟩
/-- A place of the call's own is told. -/
theorem tell_box [Env] {H : List Ob} (h : HRel φ ι w H) {p : Nat} {T : TypeId} {t : Ty} {x : t.den} (hp : getOb H p = .box T t (.dat t x)) :
    ∃ φ', Ghost φ ι w H φ' (putOb H p .gone) ∧ ∃ b cs, ι p = .pointer (some ⟨b, 0, none⟩) ∧ At φ' w b 0 cs ∧ CR φ' w t x cs := by
  have hlt : p < H.length := lt_of_live (by rw [hp]; rfl)
  have hget : ∀ i, getOb (putOb H p .gone) i = if i = p then .gone else getOb H i := fun i => getOb_put H p _ i (Nat.le_of_lt hlt)
  have hob := h.obj p
  rw [hp] at hob
  obtain ⟨b, cur, fr, v, e1, hh, hsz, hfr, hone, hrel, hcells, hfits, hnφ⟩ := hob
  have hblk : blk (ι p) = some b := by rw [e1]; rfl
  have hown0 : (getOb H p).owns = true := by rw [hp]; rfl
  have hlive : ∀ i, (getOb (putOb H p .gone) i).live = (getOb H i).live := fun i => by
    rw [hget]; split
    · rename_i hi; subst hi; rw [hp]; rfl
    · rfl
  have howns : ∀ i, (getOb (putOb H p .gone) i).owns = true → i ≠ p ∧ (getOb H i).owns = true := fun i hi => by
    rw [hget] at hi
    split at hi
    · cases hi
    · rename_i hne; exact ⟨hne, hi⟩
  let φ' : Phi := fun c k => φ c k ∨ (c = b ∧ k < cur.size)
  have hpp : ∀ c k, φ c k → φ' c k := fun c k hb => .inl hb
  refine ⟨φ', ⟨⟨fun i => ?_, fun i j c hi hj h1 h2 => h.apart i j c (howns i hi).2 (howns j hj).2 h1 h2, ?_, fun i j hj => ?_, fun g => (h.glob g).mono hpp (fun _ _ _ => rfl)⟩,
    ⟨hpp, fun _ _ _ => rfl, ?_, Nat.le_refl _, rfl, rfl, rfl, fun _ _ _ => rfl, fun c ⟨i, h1, h2⟩ => .inr ⟨i, (howns i h1).2, h2⟩⟩, hlive, putOb_len H p _ hlt⟩, b, cur.toList, e1, ?_, ?_⟩
  · rw [hget]
    split
    · trivial
    · rename_i hi
      refine (h.obj i).keep hpp (fun _ _ _ => rfl) (fun _ => rfl) (fun _ _ => rfl) fun c ho' hb => ⟨rfl, fun k hk => ?_⟩
      rcases hk with hk | ⟨rfl, _⟩
      · exact hk
      · exact absurd (h.apart i p c ho' hown0 hb hblk) hi
  · rintro c k (hk | ⟨rfl, hk⟩)
    · exact h.phi c k hk
    · exact ⟨cur[k], by simp [World.cell?, hh, Array.getElem?_eq_getElem hk]⟩
  · rw [hget] at hj
    rw [hlive]
    split at hj
    · simp [Ob.ids] at hj
    · exact h.ids i j hj
  · rintro c k (hk | ⟨rfl, _⟩)
    · exact .inl hk
    · exact .inr (.inr ⟨p, hown0, hblk⟩)
  · intro i u hu
    have hu' : cur[i]? = some u := by simpa using hu
    have hi := (Array.getElem?_eq_some_iff.1 hu').1
    rw [Nat.zero_add]
    exact ⟨.inr ⟨rfl, hi⟩, by simp [World.cell?, hh, hu']⟩
  · have := hrel.1
    rw [hcells] at this
    exact CR.mono hpp (fun _ _ _ => rfl) t x _ this
theorem sameP_eq : ∀ (l m : List RV), sameP l m = true → l = m
  | [], [], _ => rfl
  | [], _ :: _, h => by simp [sameP] at h
  | a :: l, [], h => by cases a <;> simp [sameP] at h
  | a :: l, b :: m, h => by
    cases a <;> cases b <;> simp only [sameP, Bool.and_eq_true, decide_eq_true_eq, Nat.beq_eq, reduceCtorEq] at h
    obtain ⟨⟨⟨⟨rfl, rfl⟩, rfl⟩, rfl⟩, h⟩ := h
    rw [sameP_eq l m h]
theorem tellRegs_get {p : Nat} {t : Ty} {x : t.den} {d : Nat} {r : RV} : ∀ (R : Regs), (tellRegs p t x R).get d = some r → ∃ r0, R.get d = some r0 ∧ (r = r0 ∨ (r0 = .ptr p t 0 [] ∧ r = .fptr t x))
  | [], h => by simp [tellRegs, Regs.get] at h
  | (e, r1) :: l, h => by
    have key : ∀ r2, (tellRegs p t x ((e, r1) :: l)) = (e, r2) :: tellRegs p t x l → (r2 = r1 ∨ (r1 = .ptr p t 0 [] ∧ r2 = .fptr t x)) → ∃ r0, Regs.get ((e, r1) :: l) d = some r0 ∧ (r = r0 ∨ (r0 = .ptr p t 0 [] ∧ r = .fptr t x)) := by
      intro r2 h1 h2
      rw [h1] at h
      simp only [Regs.get] at h ⊢
      cases hb : Nat.beq d e
      · simp only [hb, cond_false] at h ⊢
        exact tellRegs_get l h
      · simp only [hb, cond_true, Option.some.injEq] at h ⊢
        subst h
        exact ⟨r1, rfl, h2⟩
    cases r1 with
    | ptr o' t' i q =>
      refine key _ rfl ?_
      cases hb : Nat.beq p o' && decide (t = t') && Nat.beq i 0 && q.isEmpty
      · exact .inl rfl
      · simp only [Bool.and_eq_true, decide_eq_true_eq, Nat.beq_eq, List.isEmpty_iff] at hb
        obtain ⟨⟨⟨rfl, rfl⟩, rfl⟩, rfl⟩ := hb
        exact .inr ⟨rfl, rfl⟩
    | _ => exact key _ rfl (.inl rfl)
theorem relT_split : ∀ (l m : List RV) (vs : List Value), RV.relT φ ι w (l ++ m) vs → ∃ c1 c2, vs = c1 ++ c2 ∧ RV.relT φ ι w l c1 ∧ RV.relT φ ι w m c2
  | [], m, vs, h => ⟨[], vs, rfl, rfl, h⟩
  | r :: l, m, vs, ⟨v, c, e, h1, h2⟩ => by
    obtain ⟨c1, c2, e2, h3, h4⟩ := relT_split l m c h2
    exact ⟨v :: c1, c2, by rw [e, e2]; rfl, ⟨v, c1, rfl, h1, h3⟩, h4⟩
theorem DT.val_opt {α β : Type} {o : Option α} {k : α → DT β} {r : β} (h : (DT.opt o k).val = some r) : ∃ x, o = some x ∧ (k x).val = some r := by
  cases o with
  | none => simp [DT.val] at h
  | some x => exact ⟨x, rfl, h⟩
theorem DT.val_bif {α : Type} {b : Bool} {x : DT α} {r : α} (h : (bif b then x else .fail).val = some r) : b = true ∧ x.val = some r := by
  cases b
  · simp [DT.val] at h
  · exact ⟨rfl, h⟩
/-- A call is deferred. -/
theorem deferAct_sound [Env] {c : Call} {o : Oper} {st' : St} (ho : o.op = .defer c) (e : (deferAct c o st).val = some st') (s : SRel φ ι w nt st a) (hdf : nt.df) {K : Act → World → Prop} {Q : Exit → Act → World → Prop}
    (k : ∀ a' w' φ' ι', SRel φ' ι' w' nt st' a' → Step φ ι w st.heap φ' ι' w' st'.heap → Keep ι st.heap ι' st'.heap → K a' w') : o.guard = none ∧ o.wpIn (FW nt.ro) 0 P a w K Q := by
  unfold deferAct at e
  split at e
  · rename_i f g A B t xs hc hargs hdst hgu hgd
    split at e
    · rename_i g' caps hev
      split at e
      · rename_i p u b' hdrop
        have q := DT.val_bif e
        clear e
        obtain ⟨q1, e⟩ := q
        split at e
        · rename_i T u' v x0 hob
          have q := DT.val_bif e
          clear e
          obtain ⟨q2, e⟩ := q
          simp only [Bool.and_eq_true, decide_eq_true_eq, Nat.beq_eq] at q1 q2
          obtain ⟨⟨rfl, h1⟩, h2⟩ := q1
          obtain ⟨rfl, rfl⟩ := q2
          have h1 := sameP_eq _ _ h1
          have h2 := sameP_eq _ _ h2
          subst h2
          obtain ⟨x1, hx, e2⟩ := DT.val_opt e
          clear e
          have hvt : v = u' := by
            by_cases h : v = u'
            · exact h
            · simp [Ty.cast?, h] at hx
          subst hvt
          obtain rfl : x0 = x1 := by
            rw [cast_self0] at hx
            exact Option.some.inj hx
          have e3 := Option.some.inj e2
          clear e2
          · have e := e3
            clear e3
            subst e
            refine ⟨hgu, ?_⟩
            obtain ⟨φ', G, bb, cs, i1, i2, i3⟩ := tell_box s.heap hob
            have hf := s.eval f
            rw [hev] at hf
            obtain ⟨⟨xs0, ys, hv, hx0, hys⟩, hlv⟩ := hf
            have hx0 : xs0 = #[] := by cases xs0; simpa [RV.relT] using hx0
            subst hx0
            have hc0 : c.args = #[] := by cases hca : c.args; rw [hca] at hargs; simpa using hargs
            have hrun : (o.semAt (FW nt.ro).round a.eval).run P w = .ok (.defer { target := .fn (.func g) ys, args := #[] }) w := by
              have : (FW nt.ro).round = none := hdf.1
              rw [this, Oper.semAt_none]
              simp only [execOp, ho, resolve, hc, hv, Deferred.ofValue, hc0]
              simp [go_sem]
            have hset : RV.relT φ ι w (A ++ .ptr p v 0 [] :: b') ys.toList := by
              have : caps = A ++ .ptr p v 0 [] :: b' := by rw [← h1, ← hdrop, List.take_append_drop]
              rw [← this]; exact hys
            obtain ⟨c1, c2, e1, r1, cv, c3, e2, r2, r3⟩ := relT_split _ _ _ hset
            have hcv : cv = .pointer (some ⟨bb, 0, none⟩) := by
              obtain ⟨b2, k2, g1, g2, -⟩ := r2
              rw [i1] at g1
              rcases g1 with ⟨n, c, g1, -⟩ | ⟨g1, -, rfl⟩
              · cases g1
              · have : bb = b2 := by simpa using g1
                subst this
                simpa [Ty.offAt] using g2
            refine ⟨fun _ _ => trivial, ?_⟩
            rw [hrun, Oper.uponIn_defer, hdst]
            refine k _ w φ' ι ⟨G.rel, fun d r hd => ?_, s.nt, s.small, ⟨s.defers.1, fun hn => by rw [hdf.2.1] at hn; cases hn⟩⟩ G.step G.keep
            simp only [Act.put]
            have hd : (((tellRegs p v x0 st.regs).put gd (.dfr g A b' v (x0 :: xs))).get d) = some r := hd
            rw [Regs.get_put] at hd
            by_cases hdg : d = gd
            · subst hdg
              simp only [if_true, Option.some.injEq] at hd
              subst hd
              rw [tmv_gd]
              have hold := s.regs gd _ hgd
              obtain ⟨vs, hvs, hl, hall⟩ := RV.rel_mono (ι' := ι) G.step.phi G.step.cells _ _ (fun _ _ => rfl) hold.1
              rw [tmv_gd] at hvs
              have hvs : a.defers.map unclo = vs := by simpa using hvs
              refine ⟨⟨.func (.func g) #[] ys :: vs, by rw [← hvs]; rfl, by simp [hl], fun i x u hx hu => ?_⟩, fun i hi => ?_⟩
              · cases i with
                | zero =>
                  simp only [List.getElem?_cons_zero, Option.some.injEq] at hx hu
                  subst hx hu
                  refine ⟨c1, cv, c3, ?_, RV.relT_mono G.step.phi G.step.cells A _ (fun _ _ => rfl) r1, ⟨bb, 0, cs, hcv, i2, i3⟩, RV.relT_mono G.step.phi G.step.cells b' _ (fun _ _ => rfl) r3⟩
                  rw [← e2, ← e1]
                | succ i => exact hall i x u (by simpa using hx) (by simpa using hu)
              · rw [G.live]
                exact hold.2 i hi
            · simp only [hdg, if_false] at hd
              obtain ⟨r0, k1, k2⟩ := tellRegs_get _ hd
              have hold := s.regs d r0 k1
              have htm : tmv { tmps := a.tmps, defers := { target := .fn (.func g) ys, args := #[] } :: a.defers } d = tmv a d := by rw [tmv_lt hdg, tmv_lt hdg]
              rw [htm]
              rcases k2 with rfl | ⟨rfl, rfl⟩
              · exact ⟨RV.rel_mono G.step.phi G.step.cells _ _ (fun _ _ => rfl) hold.1, fun i hi => by rw [G.live]; exact hold.2 i hi⟩
              · refine ⟨?_, by simp [RV.ids]⟩
                obtain ⟨b2, k2, g1, g2, -⟩ := hold.1
                rw [i1] at g1
                rcases g1 with ⟨n, c, g1, -⟩ | ⟨g1, -, rfl⟩
                · cases g1
                · have : bb = b2 := by simpa using g1
                  subst this
                  exact ⟨bb, 0, cs, by simpa [Ty.offAt] using g2, i2, i3⟩
        · simp [DT.val] at e
      · simp [DT.val] at e
    · simp [DT.val] at e
  · simp [DT.val] at e
theorem runOps_sound [Env] (tab : TabOK P cx) (hG : GSound P Γ) {ops : Array Oper} {Q : Exit → Act → World → Prop} : ∀ (l : List Oper) (st st' : St) (φ : Phi) (ι : Nat → Value) (w : World) (a : Act), (runOps cx Γ ops l st).val = some st' → SRel φ ι w nt st a → l.all (dstOk nt.n) = true → (l.any isDf = true → nt.df) →
    (∀ a' w' φ' ι', SRel φ' ι' w' nt st' a' → Step φ ι w st.heap φ' ι' w' st'.heap → Keep ι st.heap ι' st'.heap → Q .normal a' w') → wpListIn (FW nt.ro) 0 P ops Q l a w
  | [], st, st', φ, ι, w, a, e, s, hd, hdf, k => by
    simp only [runOps, DT.val, Option.some.injEq] at e
    subst e
    exact k a w φ ι s (Step.refl _ _ _ _) (Keep.refl _ _)
  | o :: l, st, st', φ, ι, w, a, e, s, hd, hdf, k => by
    simp only [runOps] at e
    obtain ⟨st1, e1, e2⟩ := DT.val_bind_some e
    simp only [List.all_cons, Bool.and_eq_true] at hd
    have q : if Region.wanted o (yielded ops a.tmps) then o.wpIn (FW nt.ro) 0 P a w (wpListIn (FW nt.ro) 0 P ops Q l) Q else wpListIn (FW nt.ro) 0 P ops Q l (a.put o.dst undef) w := by
      split at e1
      · rename_i c ho
        obtain ⟨hg, q⟩ := deferAct_sound (P := P) (Q := Q) ho e1 s (hdf (by simp [isDf, ho])) fun a' w' φ' ι' s1 t1 k1 =>
          runOps_sound tab hG l st1 st' φ' ι' w' a' e2 s1 hd.2 (fun h => hdf (by rw [List.any_cons, h]; simp)) fun a2 w2 φ2 ι2 s2 t2 k2 => k a2 w2 φ2 ι2 s2 (t1.trans t2) (k1.trans k2)
        have hw : Region.wanted o (yielded ops a.tmps) = true := by simp [Region.wanted, hg]
        rw [if_pos hw]
        exact q
      · obtain ⟨⟨st2, m, p⟩, e3, e4⟩ := DT.val_bind_some e1
        simp only [DT.val, Option.some.injEq] at e4
        subst e4
        exact stepOp_sound (Q := Q) tab hG e3 s (free_top _ _) hd.1 fun a' w' φ' ι' s1 t1 k1 n1 =>
          runOps_sound tab hG l st2 st' φ' ι' w' a' e2 s1 hd.2 (fun h => hdf (by rw [List.any_cons, h]; simp)) fun a2 w2 φ2 ι2 s2 t2 k2 => k a2 w2 φ2 ι2 s2 (t1.trans t2) (k1.trans k2)
    unfold wpListIn
    split
    · rename_i h; rw [if_pos h] at q; exact q
    · rename_i h; rw [if_neg h] at q; exact ⟨fun _ _ => trivial, q⟩
end
end Go.X
