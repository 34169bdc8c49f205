/- The engine, part k: slices.Insert of one element; whether two slices overlap. -/
import Derived.Test.YtmmmpanpbphkdaaGreatDoorXC
import Derived.Lib.Overlaps
import Derived.Shelf.Strings.IndexAnyAll
import Derived.LaidHandle
import Derived.LaidMore
import Derived.OpenShut
import Derived.Shelf.Strings.SlTrimAscii
set_option linter.unusedVariables false
set_option linter.unusedSimpArgs false
namespace Go.X
open Go.RowKit
def ovG (t : Ty) : List RV -> List Ob -> DT (RV × List Ob)
  | [.own u o, .view v p lo hi], H => match getOb H o, getOb H p with
    | .arr _ a _ false, .arr _ b _ false => bif decide (u = t) && decide (v = t) && decide (a = t) && decide (b = t) && !Nat.beq o p then .leaf (.dat .bool false, H) else .fail
    | _, _ => .fail
  | _, _ => .fail
section
variable {P : Program}
theorem rV {w : World} {tS tR e : TypeId} (ht : P.underlying tS = some (.slice e)) {size : Nat} (hz : ∀ w, (Go.sizeOf e).run P w = .ok size w) {a b : Option Addr} {la ca lb cb : Nat} (h : a = none \/ b = none \/ la = 0 \/ lb = 0) :
    (Extern.SlicesOverlaps.overlaps #[tS, tS] #[tR] #[.slice a la ca, .slice b lb cb]).run P w = .ok (.bool false) w := by
  change Sem.run P (α := Value) (do
    let some t := (#[tS, tS] : Array TypeId)[0]? | stuck "slices.overlaps: no parameter types"
    let .slice elem <- underlying t | stuck "slices.overlaps: slice type expected"
    let size <- sizeOf elem
    match (a : Option Addr), (b : Option Addr) with
    | some a, some b =>
      if la = 0 \/ lb = 0 \/ size = 0 then pure (Value.bool false)
      else if a.block != b.block && (<- frozen a) && (<- frozen b) then unsupported .addressObserved
      else do
        if a.block != b.block then do
          noView a; noView b
          if <- mayBeOne a b then return Value.bool ((<- choose (.extern "sameAddr.stringBytes" 2)) == 1)
        pure (Value.bool (a.block == b.block && a.off < b.off + lb * size && b.off < a.off + la * size))
    | _, _ => pure (Value.bool false)) w = _
  cases a with
  | none => cases b <;> simp [run_underlying ht, hz]
  | some a =>
    cases b with
    | none => simp [run_underlying ht, hz]
    | some b =>
      have h0 : la = 0 \/ lb = 0 \/ size = 0 := by
        rcases h with h | h | h | h
        · cases h
        · cases h
        · exact .inl h
        · exact .inr (.inl h)
      simp [run_underlying ht, hz, h0]
theorem ana [Env] {f : FuncId} (hrn : jm f = false) {fn : Func} {T T2 e : TypeId} {t : Ty} {bytes : Nat} (ht8 : t ≠ .int .u8) (hf : P.funcs[f]? = some fn) (hname : (fn.name == "runtime.NumGoroutine") = false) (hb : fn.body.isNone = true) (hn : Extern.findNext fn = none)
    (he : Extern.find fn = some (Extern.SlicesOverlaps.overlaps #[T, T] #[T2])) (hd : P.underlying T = some (.slice e)) (hel : elemOk P e t bytes) (args : List RV) (H : List Ob) (r : RV) (H' : List Ob) (h : (ovG t args H).val = some (r, H')) : GOX P f args H r H' := by
  unfold ovG at h
  split at h
  case h_2 => simp [DT.val] at h
  rename_i u o v p lo hi
  split at h
  case h_2 => simp [DT.val] at h
  rename_i e1 a xs e2 b ys ho hp
  cases hc : decide (u = t) && decide (v = t) && decide (a = t) && decide (b = t) && !Nat.beq o p
  · rw [hc] at h; simp [DT.val] at h
  rw [hc, cond_true] at h
  simp only [DT.val, Option.some.injEq, Prod.mk.injEq] at h
  obtain ⟨rfl, rfl⟩ := h
  simp only [Bool.and_eq_true, decide_eq_true_eq, Bool.not_eq_true'] at hc
  obtain ⟨⟨⟨⟨hu, hv⟩, ha⟩, hb2⟩, hne⟩ := hc
  subst hu hv
  subst ha
  subst hb2
  have hne : o ≠ p := by rintro rfl; simp at hne
  intro φ ι w vs hrel hlive hargs hids
  obtain ⟨v1, m1, q1, r1, v2, m2, q2, r2, hm⟩ := hargs
  simp only [RV.relT] at hm
  subst hm q2
  obtain rfl : vs = #[v1, v2] := by cases vs; simp at q1; simp [q1]
  have h1 := hrel.obj o
  have h2 := hrel.obj p
  rw [ho] at h1
  rw [hp] at h2
  obtain ⟨A, n, c, a1, a2, a3, a4, a5⟩ := h1
  obtain ⟨B, m, d, b1, b2, b3, b4, b5⟩ := h2
  obtain ⟨rfl, -⟩ := r1
  obtain ⟨B', m', d', B2, c1, c2, c3, c4, rfl, c6, c7⟩ := r2
  rw [b1] at c1
  obtain ⟨rfl, rfl, rfl⟩ := bG c1
  have hz := fun w => gi (P := P) hel w
  have hrun : (Extern.SlicesOverlaps.overlaps #[T, T] #[T2] #[ι o, .slice B2 (hi - lo) (d - lo)]).run P w = .ok (.bool false) w := by
    rw [a1]
    by_cases hn0 : n = 0
    · exact rV hd hz (.inr (.inr (.inl hn0)))
    by_cases hl0 : hi - lo = 0
    · exact rV hd hz (.inr (.inr (.inr hl0)))
    rcases a5 with a5 | ⟨k, pre, cur, fr, rfl, g1, g2, g3, g0, g4, g5, g6, g7⟩
    · omega
    rcases b5 with b5 | ⟨k2, pre2, cur2, fr2, rfl, k1, k3, k4, k0, k5, k6, k7, k8⟩
    · omega
    have hB := c6 (by omega)
    subst hB
    have hsz : 0 < b.size := by
      obtain ⟨ei, z, _, _, _, _, _, g6, _⟩ := hel
      exact g6
    have hkk : k ≠ k2 := by
      rintro rfl
      exact hne (hrel.apart o p k (by rw [ho]; rfl) (by rw [hp]; rfl) (by rw [a1]; simp [blk]; omega) (by rw [b1]; simp [blk]; omega))
    have hcs : 0 < cur.size := by rw [g2]; exact Nat.mul_pos (by omega) hsz
    have hcs2 : 0 < cur2.size := by rw [k3]; exact Nat.mul_pos (by omega) hsz
    have hlast := g3.last.resolve_left ht8
    have := Lib.run_overlaps_apart w T T2 e hd b.size hz ⟨k, pre.size, none⟩ ⟨k2, pre2.size + lo * b.size, none⟩ n c (hi - lo) (d - lo) hkk e1 e2 (pre.size + cur.size) (pre2.size + cur2.size)
      (by simp [World.shape?, g1]) (by simp [World.shape?, k1]) (by omega)
      (by
        have h0 := g3.ok pre.size (by omega)
        simp only [World.frozen?, g1]
        simpa using h0)
      (by
        simp only [World.frozen?, g1]
        simpa using hlast)
    simpa [bC] using this
  refine (Does.call hrn).2 (.inr ⟨.bool false, w, ?_, .bool false, φ, ι, rfl, hrel, Step.refl _ _ _ _, Keep.refl _ _, cQ (VR.bool.2 rfl), by simp [RV.ids]⟩)
  rw [run_callFunc_extern hf hname hb hn he, hrun]
  rfl
theorem aoJ [Env] {cx : Cx} (tab : TabOK P cx) {f : FuncId} (hrn : jm f = false) {fn : Func} {T T2 : TypeId} {t : Ty} (hT : cx.isTy T (.list t) = true) (ht8 : decide (t = .int .u8) = false) (hf : P.funcs[f]? = some fn) (hname : (fn.name == "runtime.NumGoroutine") = false) (hb : fn.body.isNone = true) (hn : Extern.findNext fn = none)
    (he : Extern.find fn = some (Extern.SlicesOverlaps.overlaps #[T, T] #[T2])) (args : List RV) (H : List Ob) (r : RV) (H' : List Ob) (h : (ovG t args H).val = some (r, H')) : GOX P f args H r H' := by
  obtain ⟨i, hi, ht⟩ := ce hT
  obtain ⟨hd, hel⟩ := cK tab hi ht
  exact ana hrn (of_decide_eq_false ht8) hf hname hb hn he hd hel args H r H' h
end
open Go.RowKit
def ald [Env] (F : Fx) (fn : Func) (Z : Shape) (args : List RV) (H : List Ob) : DT Z.ty.den :=
  (evC F (aG fn) 0 ⟨bv 0 args, H⟩).bind fun q => match q.1 with
    | .exit _ => .fail
    | _ => ((oX F.cx q.2.regs 0 fn.results.toList).run q.2.heap q.2.heap.length .none).bind fun p => Z.take F.m ⟨p.1, p.2.1⟩
section
variable {P : Program} {H : List Ob}
theorem acV [Env] {F : Fx} (tab : TabOK P F.cx) (hG : aC P F.Γ) (hm : P.follows .mixedOrders = true) {f : FuncId} {fn : Func} {Z : Shape} (hf : P.funcs[f]? = some fn) (hb : fn.body = some (aG fn)) (hok : (dn fn.ntmps (aG fn) && !(fn.name == "runtime.NumGoroutine") && !hasRf (aG fn) && !hasDf (aG fn) && Nat.ble fn.ntmps gd && Nat.ble fn.results.size gd) = true) (hl : aS (aG fn) 0 = [])
    (hok4 : Z.regs.map (·.1) = List.range' 0 fn.results.size) {args : List RV} (hA : args.length <= fn.ntmps) (hmF : F.m = H.length) {z : Z.ty.den} (e : (ald F fn Z args H).val = some z) : GOK P f args H (l9 (Z.enc z).regs) (Z.enc z).heap := by
  simp only [Bool.and_eq_true, Bool.not_eq_true'] at hok
  obtain ⟨⟨⟨⟨⟨hok1, hok2⟩, hok3⟩, hdf⟩, hsm⟩, hrs⟩ := hok
  have hsm := Nat.le_of_ble_eq_true hsm
  have hrs := Nat.le_of_ble_eq_true hrs
  unfold ald at e
  obtain ⟨⟨e1, st1⟩, h1, h2⟩ := DT.val_bind_some e
  have h3 : e1 = .nrm \/ e1 = .ret := by
    cases e1 with
    | nrm => exact .inl rfl
    | ret => exact .inr rfl
    | exit i => simp [DT.val] at h2
  have h4 : (((oX F.cx st1.regs 0 fn.results.toList).run st1.heap st1.heap.length .none).bind fun p => Z.take F.m ⟨p.1, p.2.1⟩).val = some z := by
    rcases h3 with rfl | rfl <;> exact h2
  obtain ⟨⟨R, h5, n5, p5⟩, h6, h7⟩ := DT.val_bind_some h4
  have h6' := HM.go_run _ _ _ _ _ _ _ _ h6
  have hkeysZ : (Z.enc z).regs.map (·.1) = List.range' 0 fn.results.size := by
    obtain ⟨⟨st', hh, nn, pp⟩, k1, k2⟩ := DT.val_bind_some h7
    simp only [DT.val_ofOpt] at k2
    have k3 : (Z.enc z).regs.map (·.1) = Z.regs.map (·.1) := by
      unfold Shape.dec at k2
      cases ha : db Z.regs st'.regs with
      | none => simp [ha] at k2
      | some x =>
        cases hb : bT Z.objs st'.heap with
        | none => simp [ha, hb] at k2
        | some y =>
          have := gq _ _ x [] ha
          rw [Shape.dec_enc (st := st') (by simp only [Shape.dec, ha, hb] at k2 ⊢; exact k2)]
          exact iC _ _ _ _ this
    rw [k3, hok4]
  refine ⟨⟨fn, hf, hok2, by rw [hb]; rfl⟩, ?_⟩
  intro φ ι w vs hrel hlive hargs hids
  refine ach hf hb ?_
  have hvs : vs.size = args.length := by
    have : ∀ (l : List RV) (vs : List Value), RV.relT φ ι w l vs -> vs.length = l.length := by
      intro l
      induction l with
      | nil => intro vs h; simp only [RV.relT] at h; simp [h]
      | cons r l ih => intro vs h; obtain ⟨v, m, rfl, -, h⟩ := h; simp [ih m h]
    simpa using this _ _ hargs
  have hsz : vs.size <= fn.ntmps := by rw [hvs]; exact hA
  have sr0 : SRel φ ι w ⟨fn.ntmps, w.heap.size, [], none, false⟩ ⟨bv 0 args, H⟩ { tmps := vs ++ Array.replicate (fn.ntmps - vs.size) undef, defers := [] } := by
    refine ⟨hrel, fun d r hd => ?_, by simp; omega, hsm, nd (Nat.le_refl _)⟩
    obtain ⟨k1, k2, k3⟩ := cP args 0
    obtain ⟨k, hk, hkk⟩ := gu _ 0 d r (by rw [k1, k2]) hd
    have hk' : d = k := by omega
    subst hk'
    have hget := k3 d (d, r) hkk
    simp only at hget
    obtain ⟨v, hv, hrv⟩ := oe hargs hget
    have hv' : vs[d]? = some v := by simpa using hv
    have hdlt : d < vs.size := (Array.getElem?_eq_some_iff.1 hv').1
    have : (vs ++ Array.replicate (fn.ntmps - vs.size) undef).getD d undef = v := by
      rw [Array.getD_eq_getD_getElem?, Array.getElem?_append_left hdlt, hv']
      rfl
    rw [eM (by omega), this]
    exact ⟨hrv, fun i hi => hids i (nR hget i hi)⟩
  have lm0 : eU F.m H := by rw [hmF]; exact fun o ho => hlive o ho
  refine fC tab hG hm (aG fn) 0 _ e1 st1 φ ι w _ _ h1 (by rw [hl]; simp) hok1 (bM _ hok3) (NtOK.fn hdf) sr0 lm0 fun a' w' φ' ι' sr' sp kp => ?_
  refine nU h3 sr' sp fun w' sr' sp => ?_
  have lm1 := kp.live lm0
  obtain ⟨q1, q2, us, q3, q4, q5, q6⟩ := j1 tab fn.results.toList 0 R st1.heap _ h5 n5 h6' sr'.heap sr'.regs
  have hR : R.length = us.length := by
    have := congrArg List.length q5
    simpa [q4] using this
  have sr2 : SRel φ' ι' w' ⟨us.toArray.size, 0, [], none, false⟩ ⟨R, h5⟩ { tmps := us.toArray, defers := [] } := by
    rw [q1]
    refine ⟨sr'.heap, fun d r hd => ?_, rfl, by rw [List.size_toArray, q4]; simpa using hrs, nd (Nat.zero_le _)⟩
    obtain ⟨k, hk, hkk⟩ := gu R 0 d r (by rw [q5]; congr 1; omega) hd
    have hk' : d = k := by omega
    subst hk'
    obtain ⟨v, hv, hrv, hlv⟩ := q6 d (d, r) hkk
    have : us.toArray.getD d undef = v := by simp [Array.getD_eq_getD_getElem?, hv]
    have hdlt : d < us.length := (List.getElem?_eq_some_iff.1 hv).1
    have hq4 : fn.results.toList.length = fn.results.size := by simp
    rw [eM (by omega)]
    simp only [this]
    exact ⟨hrv, hlv⟩
  obtain ⟨φ2, ι2, m1, m2, m3, m4, m5⟩ := dB h7 sr2 (by rw [q1]; exact lm1)
  have hZlen : (Z.enc z).regs.length = us.toArray.size := by
    have := congrArg List.length hkeysZ
    simp only [List.length_map, List.length_range'] at this
    rw [this]; simp [q4]
  obtain ⟨r1, r2⟩ := vf (vs := us.toArray) (R := (Z.enc z).regs) (by rw [hkeysZ]; congr 1; simpa [q4] using hZlen.symm) hZlen (tv (a := { tmps := us.toArray, defers := [] }) (by rw [hkeysZ]; congr 1; simpa [q4] using hZlen.symm) (by rw [hZlen, List.size_toArray, q4]; simpa using hrs) m1.regs)
  have hres := j3 q3
  refine ⟨_, hres, _, φ2, ι2, rfl, m1.heap, ?_, ?_, r1, r2⟩
  · rw [q1] at m2
    exact sp.trans m2
  · rw [q1] at m3
    have km := kp.trans m3
    refine ⟨fun o ho => ?_, fun o ho => ?_⟩
    · exact (km o (by rw [hmF]; exact aP ho) ho).1
    · exact (km o (by rw [hmF]; exact aP ho) ho).2
end
def aoB {α : Type} (bytes : Nat) (z0 : α) (i : Int) (xs ys : List α) : Option (List α × List α × Unit) :=
  bif (decide ((0 : Int) <= i) && decide ((i : Int) <= (List.length xs : Int)) && decide (((List.length xs : Int) : Int) <= (List.length xs : Int))) then
    let t0 : List α := (List.drop (Int.toNat i) (List.take (Int.toNat (List.length xs : Int)) xs))
    let t1 : Bool := (decide ((((List.length ys) : Int) : Int) = (0 : Int)))
    bif t1 then
      none
    else
      let t2 : Bool := (decide ((i : Int) = ((List.length xs) : Int)))
      bif t2 then
        bif (decide (0 < List.length ys) && decide ((List.length xs + List.length ys) * bytes <= ai)) then
          some (ys, (xs ++ ys), ())
        else
          none
      else
        let t3 : Int := (IntKind.i64.wrap (((List.length xs) : Int) + ((List.length ys) : Int)))
        let t4 : Bool := (decide ((t3 : Int) > (List.length xs : Int)))
        bif t4 then
          bif (decide ((0 : Int) <= i) && decide ((i : Int) <= (List.length xs : Int))) then
            let t5 : Int := (IntKind.i64.wrap (((List.length xs) : Int) + ((List.length ys) : Int)))
            bif (decide ((0 : Int) < (IntKind.i64.wrap (t5 - i))) && decide (((List.length xs) : Int) < (List.length (List.take (Int.toNat i) xs) : Int) + (IntKind.i64.wrap (t5 - i))) && decide (((List.length (List.take (Int.toNat i) xs) : Int) + (IntKind.i64.wrap (t5 - i))) * (bytes : Int) <= (ai : Int))) then
              let t6 : List α := ((List.take (Int.toNat i) xs) ++ List.replicate (Int.toNat (IntKind.i64.wrap (t5 - i))) z0)
              bif (decide ((0 : Int) <= i) && decide ((i : Int) <= (List.length t6 : Int)) && decide (((List.length t6 : Int) : Int) <= (List.length t6 : Int))) then
                let t7 : List α := (List.take ((Int.toNat (List.length t6 : Int)) - (Int.toNat i)) ys)
                let t8 : List α := (List.take (Int.toNat i) t6 ++ t7 ++ List.drop ((Int.toNat i) + List.length t7) t6)
                let t9 : Int := (IntKind.i64.wrap (i + ((List.length ys) : Int)))
                bif (decide ((0 : Int) <= t9) && decide ((t9 : Int) <= (List.length t8 : Int)) && decide (((List.length t8 : Int) : Int) <= (List.length t8 : Int))) then
                  bif (decide ((0 : Int) <= i) && decide ((i : Int) <= (List.length xs : Int)) && decide (((List.length xs : Int) : Int) <= (List.length xs : Int))) then
                    let t10 : List α := (List.drop (Int.toNat i) (List.take (Int.toNat (List.length xs : Int)) xs))
                    let t11 : List α := (List.take ((Int.toNat (List.length t8 : Int)) - (Int.toNat t9)) t10)
                    let t12 : List α := (List.take (Int.toNat t9) t8 ++ t11 ++ List.drop ((Int.toNat t9) + List.length t11) t8)
                    some (ys, t12, ())
                  else
                    none
                else
                  none
              else
                none
            else
              none
          else
            none
        else
          let t5 : Int := (IntKind.i64.wrap (((List.length xs) : Int) + ((List.length ys) : Int)))
          bif (decide ((0 : Int) <= t5) && decide ((t5 : Int) <= (List.length xs : Int))) then
            let t6 : Int := (IntKind.i64.wrap (i + ((List.length ys) : Int)))
            bif (decide ((0 : Int) <= t6) && decide ((t6 : Int) <= (List.length (List.take (Int.toNat t5) xs) : Int)) && decide (((List.length (List.take (Int.toNat t5) xs) : Int) : Int) <= (List.length (List.take (Int.toNat t5) xs) : Int))) then
              let t7 : List α := (List.drop (Int.toNat t6) (List.take (Int.toNat (List.length (List.take (Int.toNat t5) xs) : Int)) (List.take (Int.toNat t5) xs)))
              none
            else
              none
          else
            none
  else
    none
def aoC {α : Type} (bytes : Nat) (i : Int) (xs : List α) (z : α) (ys : List α) : Option (List α × List α × Unit) :=
  bif (decide ((0 : Int) <= i) && decide ((i : Int) <= (((List.length xs) - 0 : Nat) : Int)) && decide (((((List.length xs) - 0 : Nat) : Int) : Int) <= ((List.length (xs ++ [z]) - 0 : Nat) : Int))) then
    let t0 : Bool := (decide ((((List.length ys) : Int) : Int) = (0 : Int)))
    bif t0 then
      some (ys, (List.take (List.length xs) (xs ++ [z])), ())
    else
      let t1 : Bool := (decide ((i : Int) = (((List.length xs) - 0 : Nat) : Int)))
      bif t1 then
        bif (decide ((List.length (List.take (List.length xs) (xs ++ [z])) + List.length ys) * bytes <= ai)) then
          let t2 : List α := (List.take (List.length xs) (xs ++ [z]) ++ ys)
          some (ys, t2, ())
        else
          none
      else
        let t2 : Int := (IntKind.i64.wrap ((((List.length xs) - 0 : Nat) : Int) + ((List.length ys) : Int)))
        bif (decide ((t2 : Int) <= ((List.length (xs ++ [z]) - 0 : Nat) : Int))) then
          let t3 : Int := (IntKind.i64.wrap ((((List.length xs) - 0 : Nat) : Int) + ((List.length ys) : Int)))
          bif (decide (((0 : Int) : Int) <= t3) && decide ((t3 : Int) <= ((List.length (xs ++ [z]) - 0 : Nat) : Int))) then
            let t4 : Int := (IntKind.i64.wrap (i + ((List.length ys) : Int)))
            bif (decide ((0 : Int) <= t4) && decide ((t4 : Int) <= (((0 + (Int.toNat t3)) - 0 : Nat) : Int)) && decide (((((0 + (Int.toNat t3)) - 0 : Nat) : Int) : Int) <= ((List.length (xs ++ [z]) - 0 : Nat) : Int))) then
              let t5 : Int := (IntKind.i64.wrap (i + ((List.length ys) : Int)))
              bif (decide ((0 : Int) <= t5) && decide ((t5 : Int) <= (((0 + (Int.toNat t3)) - 0 : Nat) : Int)) && decide (((((0 + (Int.toNat t3)) - 0 : Nat) : Int) : Int) <= ((List.length (xs ++ [z]) - 0 : Nat) : Int))) then
                bif (decide ((0 : Int) <= i) && decide ((i : Int) <= (((0 + (Int.toNat t3)) - 0 : Nat) : Int)) && decide (((((0 + (Int.toNat t3)) - 0 : Nat) : Int) : Int) <= ((List.length (xs ++ [z]) - 0 : Nat) : Int))) then
                  let t6 : List α := (List.drop (0 + (Int.toNat i)) (List.take (0 + (Int.toNat (((0 + (Int.toNat t3)) - 0 : Nat) : Int))) (xs ++ [z])))
                  let t7 : List α := (List.take ((0 + (Int.toNat (((0 + (Int.toNat t3)) - 0 : Nat) : Int))) - (0 + (Int.toNat t5))) t6)
                  let t8 : List α := (List.take (0 + (Int.toNat t5)) (xs ++ [z]) ++ t7 ++ List.drop ((0 + (Int.toNat t5)) + List.length t7) (xs ++ [z]))
                  bif (decide ((0 : Int) <= i) && decide ((i : Int) <= (((0 + (Int.toNat t3)) - 0 : Nat) : Int)) && decide (((((0 + (Int.toNat t3)) - 0 : Nat) : Int) : Int) <= ((List.length t8 - 0 : Nat) : Int))) then
                    let t9 : List α := (List.take ((0 + (Int.toNat (((0 + (Int.toNat t3)) - 0 : Nat) : Int))) - (0 + (Int.toNat i))) ys)
                    let t10 : List α := (List.take (0 + (Int.toNat i)) t8 ++ t9 ++ List.drop ((0 + (Int.toNat i)) + List.length t9) t8)
                    some (ys, (List.take (0 + (Int.toNat t3)) t10), ())
                  else
                    none
                else
                  none
              else
                none
            else
              none
          else
            none
        else
          none
  else
    none
theorem ajP {x : Int} (h : -9223372036854775808 <= x /\ x < 9223372036854775808) : IntKind.i64.wrap x = x := by
  rw [IntKind.wrap_i64]; omega
theorem gr {p : Prop} [Decidable p] (h : p) : decide p = true := decide_eq_true h
theorem akZ {p : Prop} [Decidable p] (h : ¬ p) : decide p = false := decide_eq_false h
theorem alM {α : Type} {bytes : Nat} {z0 : α} {k : Nat} {xs : List α} {y : α} (h1 : k <= xs.length) (h3 : xs.length + 1 < 1000000000000000000) (h4 : (xs.length + 1) * bytes <= ai) :
    aoB bytes z0 (k : Int) xs [y] = some ([y], xs.take k ++ [y] ++ xs.drop k, ()) := by
  have w1 : IntKind.i64.wrap ((xs.length : Int) + (([y].length : Nat) : Int)) = ((xs.length + 1 : Nat) : Int) := by rw [ajP (by simp; omega)]; simp
  have w2 : IntKind.i64.wrap (((xs.length + 1 : Nat) : Int) - (k : Int)) = ((xs.length + 1 - k : Nat) : Int) := by rw [ajP (by omega)]; omega
  have w3 : IntKind.i64.wrap ((k : Int) + (([y].length : Nat) : Int)) = ((k + 1 : Nat) : Int) := by rw [ajP (by simp; omega)]; simp
  unfold aoB
  simp only [w1, w2, w3, Int.toNat_natCast]
  have c1 : decide ((0 : Int) <= (k : Int)) = true := gr (by omega)
  have c2 : decide ((k : Int) <= (xs.length : Int)) = true := gr (by omega)
  have c3 : decide ((xs.length : Int) <= (xs.length : Int)) = true := gr (by omega)
  have c4 : decide ((([y].length : Nat) : Int) = 0) = false := akZ (by simp)
  simp only [c1, c2, c3, c4, Bool.and_self, cond_true, cond_false]
  by_cases hk : k = xs.length
  · subst hk
    have c5 : decide (((xs.length : Nat) : Int) = (xs.length : Int)) = true := gr rfl
    have c6 : decide (0 < [y].length) = true := gr (by simp)
    have c7 : decide ((xs.length + [y].length) * bytes <= ai) = true := gr (by simpa using h4)
    simp only [c5, c6, c7, cond_true, Bool.and_self]
    simp
  · have hlt : k < xs.length := by omega
    have c5 : decide ((k : Int) = (xs.length : Int)) = false := akZ (by omega)
    have c6 : decide (((xs.length + 1 : Nat) : Int) > (xs.length : Int)) = true := gr (by omega)
    have lt : (List.take k xs).length = k := by rw [List.length_take]; omega
    have c7 : decide ((0 : Int) < ((xs.length + 1 - k : Nat) : Int)) = true := gr (by omega)
    have c8 : decide ((xs.length : Int) < ((List.take k xs).length : Int) + ((xs.length + 1 - k : Nat) : Int)) = true := gr (by rw [lt]; omega)
    have c9 : decide ((((List.take k xs).length : Int) + ((xs.length + 1 - k : Nat) : Int)) * (bytes : Int) <= (ai : Int)) = true := gr (by
      rw [lt]
      have : ((k : Int) + ((xs.length + 1 - k : Nat) : Int)) = ((xs.length + 1 : Nat) : Int) := by omega
      rw [this, <- Int.natCast_mul]
      exact Int.ofNat_le.2 h4)
    simp only [c5, c6, c7, c8, c9, cond_true, cond_false, Bool.and_self]
    have l6 : (List.take k xs ++ List.replicate (xs.length + 1 - k) z0).length = xs.length + 1 := by rw [List.length_append, lt, List.length_replicate]; omega
    have d1 : decide ((k : Int) <= ((List.take k xs ++ List.replicate (xs.length + 1 - k) z0).length : Int)) = true := gr (by rw [l6]; omega)
    have d2 : decide (((List.take k xs ++ List.replicate (xs.length + 1 - k) z0).length : Int) <= ((List.take k xs ++ List.replicate (xs.length + 1 - k) z0).length : Int)) = true := gr (by omega)
    simp only [d1, d2, cond_true, Bool.and_self, Int.toNat_natCast, l6]
    have e7 : List.take (xs.length + 1 - k) [y] = [y] := List.take_of_length_le (by simp; omega)
    have e8 : List.take k (List.take k xs ++ List.replicate (xs.length + 1 - k) z0) ++ [y] ++ List.drop (k + [y].length) (List.take k xs ++ List.replicate (xs.length + 1 - k) z0) = List.take k xs ++ [y] ++ List.replicate (xs.length - k) z0 := by
      rw [List.take_append_of_le_length (by omega), List.take_of_length_le (l := List.take k xs) (by omega)]
      rw [List.drop_append, List.drop_of_length_le (l := List.take k xs) (by simp; omega), List.nil_append, List.drop_replicate, lt]
      congr 2
      simp; omega
    simp only [e7, e8]
    have l8 : (List.take k xs ++ [y] ++ List.replicate (xs.length - k) z0).length = xs.length + 1 := by simp [lt]; omega
    have d3 : decide ((0 : Int) <= ((k + 1 : Nat) : Int)) = true := gr (by omega)
    have d4 : decide (((k + 1 : Nat) : Int) <= ((List.take k xs ++ [y] ++ List.replicate (xs.length - k) z0).length : Int)) = true := gr (by rw [l8]; omega)
    have d5 : decide (((List.take k xs ++ [y] ++ List.replicate (xs.length - k) z0).length : Int) <= ((List.take k xs ++ [y] ++ List.replicate (xs.length - k) z0).length : Int)) = true := gr (by omega)
    simp only [d3, d4, d5, cond_true, Bool.and_self, l8, Int.toNat_natCast]
    have e10 : List.drop k (List.take xs.length xs) = List.drop k xs := by rw [List.take_length]
    have e11 : List.take (xs.length + 1 - (k + 1)) (List.drop k xs) = List.drop k xs := List.take_of_length_le (by simp)
    simp only [e10, e11]
    have e12 : List.take (k + 1) (List.take k xs ++ [y] ++ List.replicate (xs.length - k) z0) = List.take k xs ++ [y] := by
      rw [List.take_append_of_le_length (by simp [lt]), List.take_of_length_le (by simp [lt])]
    have e13 : List.drop (k + 1 + (List.drop k xs).length) (List.take k xs ++ [y] ++ List.replicate (xs.length - k) z0) = [] := List.drop_of_length_le (by rw [l8]; simp; omega)
    have d6 : decide ((k : Int) <= ((xs.length + 1 : Nat) : Int)) = true := gr (by omega)
    have d7 : decide (((k + 1 : Nat) : Int) <= ((xs.length + 1 : Nat) : Int)) = true := gr (by omega)
    have d8 : decide (((xs.length + 1 : Nat) : Int) <= ((xs.length + 1 : Nat) : Int)) = true := gr (by omega)
    simp only [d6, d7, d8, cond_true, Bool.and_self, e12, e13, List.append_nil]
theorem alN {α : Type} {bytes : Nat} {k : Nat} {xs : List α} {z y : α} (h1 : k <= xs.length) (h3 : xs.length + 1 < 1000000000000000000) (h4 : (xs.length + 1) * bytes <= ai) :
    aoC bytes (k : Int) xs z [y] = some ([y], xs.take k ++ [y] ++ xs.drop k, ()) := by
  have w1' : IntKind.i64.wrap ((xs.length : Int) + (([y].length : Nat) : Int)) = ((xs.length + 1 : Nat) : Int) := by rw [ajP (by simp; omega)]; simp
  have w3 : IntKind.i64.wrap ((k : Int) + (([y].length : Nat) : Int)) = ((k + 1 : Nat) : Int) := by rw [ajP (by simp; omega)]; simp
  have lx : (xs ++ [z]).length = xs.length + 1 := by simp
  unfold aoC
  simp only [Nat.sub_zero, Int.sub_zero, Nat.zero_add]
  simp only [w1', w3, Int.toNat_natCast, lx, Nat.sub_zero, Int.sub_zero, Nat.zero_add]
  have c1 : decide ((0 : Int) <= (k : Int)) = true := gr (by omega)
  have c2 : decide ((k : Int) <= (xs.length : Int)) = true := gr (by omega)
  have c3 : decide ((xs.length : Int) <= ((xs.length + 1 : Nat) : Int)) = true := gr (by omega)
  have c4 : decide ((([y].length : Nat) : Int) = 0) = false := akZ (by simp)
  simp only [c1, c2, c3, c4, Bool.and_self, cond_true, cond_false]
  have tx : List.take xs.length (xs ++ [z]) = xs := by simp
  by_cases hk : k = xs.length
  · subst hk
    have c5 : decide (((xs.length : Nat) : Int) = (xs.length : Int)) = true := gr rfl
    have c7 : decide ((xs.length + [y].length) * bytes <= ai) = true := gr (by simpa using h4)
    simp only [c5, tx, c7, cond_true, Bool.and_self]
    simp
  · have hlt : k < xs.length := by omega
    have c5 : decide ((k : Int) = (xs.length : Int)) = false := akZ (by omega)
    have c6 : decide (((xs.length + 1 : Nat) : Int) <= ((xs.length + 1 : Nat) : Int)) = true := gr (by omega)
    have c7 : decide ((0 : Int) <= ((xs.length + 1 : Nat) : Int)) = true := gr (by omega)
    have c8 : decide ((0 : Int) <= ((k + 1 : Nat) : Int)) = true := gr (by omega)
    have c9 : decide (((k + 1 : Nat) : Int) <= ((xs.length + 1 : Nat) : Int)) = true := gr (by omega)
    have c10 : decide ((k : Int) <= ((xs.length + 1 : Nat) : Int)) = true := gr (by omega)
    simp only [c5, c6, c7, c8, c9, c10, cond_true, cond_false, Bool.and_self]
    have tx1 : List.take (xs.length + 1) (xs ++ [z]) = xs ++ [z] := List.take_of_length_le (by simp)
    have e6 : List.drop k (xs ++ [z]) = List.drop k xs ++ [z] := by rw [List.drop_append_of_le_length h1]
    have e7 : List.take (xs.length + 1 - (k + 1)) (List.drop k xs ++ [z]) = List.drop k xs := by
      rw [List.take_append_of_le_length (by simp), List.take_of_length_le (by simp)]
    simp only [tx1, e6, e7]
    have l8 : (List.take (k + 1) (xs ++ [z]) ++ List.drop k xs ++ List.drop (k + 1 + (List.drop k xs).length) (xs ++ [z])).length = xs.length + 1 := by
      simp; omega
    have c11 : decide (((xs.length + 1 : Nat) : Int) <= ((List.take (k + 1) (xs ++ [z]) ++ List.drop k xs ++ List.drop (k + 1 + (List.drop k xs).length) (xs ++ [z])).length : Int)) = true := gr (by rw [l8]; omega)
    have e9 : List.take (xs.length + 1 - k) [y] = [y] := List.take_of_length_le (by simp; omega)
    simp only [l8, c6, cond_true, Bool.and_self, e9]
    have e0 : List.drop (k + 1 + (List.drop k xs).length) (xs ++ [z]) = [] := List.drop_of_length_le (by simp; omega)
    have tk : List.take (k + 1) (xs ++ [z]) = List.take (k + 1) xs := by rw [List.take_append_of_le_length (by omega)]
    have lk : (List.take (k + 1) xs).length = k + 1 := by rw [List.length_take]; omega
    rw [e0, List.append_nil, tk]
    have e1 : List.take k (List.take (k + 1) xs ++ List.drop k xs) = List.take k xs := by
      rw [List.take_append_of_le_length (by omega), List.take_take]; congr 1; omega
    have e2 : List.drop (k + [y].length) (List.take (k + 1) xs ++ List.drop k xs) = List.drop k xs := by
      rw [List.drop_append, List.drop_of_length_le (by rw [lk]; simp), List.nil_append, lk]; simp
    rw [e1, e2]
    have e3 : List.take (xs.length + 1) (List.take k xs ++ [y] ++ List.drop k xs) = List.take k xs ++ [y] ++ List.drop k xs := List.take_of_length_le (by simp; omega)
    rw [e3]
def amM {α : Type} (bytes : Nat) (s : Int × List α × List α × Unit) : Option (List α × List α × Unit) :=
  bif decide (0 <= s.1) && decide (s.1 <= (s.2.1.length : Int)) && decide (s.2.2.1.length = 1) && decide (s.2.1.length + 1 < 1000000000000000000) && decide ((s.2.1.length + 1) * bytes <= ai) then some (s.2.2.1, s.2.1.take s.1.toNat ++ s.2.2.1 ++ s.2.1.drop s.1.toNat, ()) else none
def anW (e : TypeId) (t : Ty) : Shape := ⟨[(0, .own t 0), (1, .dat (.int .i64)), (2, .own t 1)], [.arr e t false, .arr e t false]⟩
def akl (e : TypeId) (t : Ty) : Shape := ⟨[(0, .own t 2)], [.gone, .arr e t false, .arr e t false]⟩
theorem amN (e : TypeId) (t : Ty) (i : Int) (xs ys : List t.den) : (anW e t).enc (i, xs, ys, ()) = ⟨[(0, .own t 0), (1, .dat (.int .i64) i), (2, .own t 1)], [.arr e t xs false, .arr e t ys false]⟩ := by
  have h : (anW e t).ty.parts (i, xs, ys, ()) = [⟨.int .i64, i⟩, ⟨.list t, xs⟩, ⟨.list t, ys⟩] := rfl
  unfold Shape.enc
  rw [h]
  simp [anW, nF, acr, SK.enc, SO.enc, kO, ll]
theorem amO (e : TypeId) (t : Ty) (ys rs : List t.den) : (akl e t).enc (ys, rs, ()) = ⟨[(0, .own t 2)], [.gone, .arr e t ys false, .arr e t rs false]⟩ := by
  have h : (akl e t).ty.parts (ys, rs, ()) = [⟨.list t, ys⟩, ⟨.list t, rs⟩] := rfl
  unfold Shape.enc
  rw [h]
  simp [akl, nF, acr, SK.enc, SO.enc, kO, ll]
section
variable {P : Program}
theorem ajb [Env] {f : FuncId} {e : TypeId} {t : Ty} {k : Nat} {xs : List t.den} {y : t.den} (rs : List t.den) (ht8 : t ≠ .int .u8) (hts : 0 < t.size)
    (gA : GOK P f [.clip t xs, .dat (.int .i64) (k : Int), .own t 1] [.gone, .arr e t [y] false] (.own t 2) [.gone, .arr e t [y] false, .arr e t rs false])
    (gB : ∀ z, GOK P f [.view t 0 0 xs.length, .dat (.int .i64) (k : Int), .own t 1] [.arr e t (xs ++ [z]) false, .arr e t [y] false] (.own t 2) [.gone, .arr e t [y] false, .arr e t rs false]) :
    GOK P f [.own t 0, .dat (.int .i64) (k : Int), .own t 1] [.arr e t xs false, .arr e t [y] false] (.own t 2) [.gone, .arr e t [y] false, .arr e t rs false] := by
  refine ⟨gA.1, ?_⟩
  intro φ ι w vs hrel hlive hargs hids
  obtain ⟨v0, m0, q0, r0, v1, m1, q1, r1, v2, m2, q2, r2, hm⟩ := hargs
  simp only [RV.relT] at hm
  subst hm q2 q1
  obtain rfl : vs = #[v0, v1, v2] := by cases vs; simp at q0; simp [q0]
  have g0 : getOb [Ob.arr e t xs false, .arr e t [y] false] 0 = .arr e t xs false := rfl
  have ho := hrel.obj 0
  rw [g0] at ho
  obtain ⟨A, n, c, o1, o2, o3, o4, o5⟩ := ho
  have r0' := r0
  obtain ⟨rfl, -⟩ := r0
  by_cases hc : c = n
  · subst hc
    have hdat : (fk (.own t 0)).go [Ob.arr e t xs false, .arr e t [y] false] 2 = some (⟨.list t, xs⟩, [Ob.arr e t xs true, .arr e t [y] false], 2) := by
      simp [fk, HM.go, getOb, aA, Ob.freeze, Ob.mask, ll]
    obtain ⟨-, φ', g, hv⟩ := ix (.own t 0) φ (ι 0) _ 2 _ _ _ hdat hrel r0' (fun i hi => by
      have h0 : i = 0 := by simpa [RV.ids] using hi
      rw [h0]; rfl)
    have hrel2 : HRel φ' ι w [Ob.gone, .arr e t [y] false] := by
      refine g.rel.update (fun i => i = 0) (fun i hi => ?_) (fun _ _ => rfl) (fun i hi => ?_) (fun i hi => ?_) (fun i hi j hj => ?_) (fun _ _ _ _ _ => rfl) (fun _ _ _ => rfl) (fun i j b hi h1 => ?_)
      · cases i with
        | zero => exact absurd rfl hi
        | succ i => rfl
      · cases i with
        | zero => rfl
        | succ i => exact hi
      · subst hi; trivial
      · subst hi; simp [getOb, Ob.ids] at hj
      · subst hi; cases h1
    have st2 : Step φ' ι w [Ob.arr e t xs true, .arr e t [y] false] φ' ι w [Ob.gone, .arr e t [y] false] :=
      ⟨fun _ _ h => h, fun _ _ _ => rfl, fun _ _ h => .inl h, Nat.le_refl _, rfl, rfl, rfl, fun _ _ _ => rfl, fun b ⟨o, h1, h2⟩ => .inr ⟨o, by cases o with
        | zero => cases h1
        | succ o => exact h1, h2⟩⟩
    refine Calls.mono (gA.2 φ' ι w #[ι 0, v1, v2] hrel2 (fun i hi => ?_) ⟨ι 0, _, rfl, ?_, v1, _, rfl, ?_, v2, _, rfl, ?_, rfl⟩ (fun i hi => ?_)) fun en w' => ?_
    · match i, hi with
      | 0, _ => rfl
      | 1, _ => rfl
      | i + 2, hi => simp at hi; omega
    · show ∃ A n, ι 0 = .slice A n n /\ CR φ' w (.list t) xs [ι 0]
      refine ⟨A, c, o1, ?_⟩
      have := hv.1
      rw [gl (by rw [o1]; rfl)] at this
      simpa using this
    · exact RV.rel_mono g.step.phi g.step.cells _ _ (fun _ _ => rfl) r1
    · exact RV.rel_mono g.step.phi g.step.cells _ _ (fun _ _ => rfl) r2
    · have : i = 1 := by simpa [RV.idsL, RV.ids] using hi
      subst this; rfl
    · rintro ⟨v, φ2, ι2, he, h', s', k', hr, hlv⟩
      have kp : Keep ι [Ob.arr e t xs false, .arr e t [y] false] ι [Ob.gone, .arr e t [y] false] := ⟨fun _ _ => rfl, fun o h => by
        cases o with
        | zero => rfl
        | succ o => exact h⟩
      exact ⟨v, φ2, ι2, he, h', (g.step.trans st2).trans s', kp.trans k', hr, hlv⟩
  · have hlt : n < c := by omega
    rcases o5 with o5 | ⟨b, pre, cur, fr, rfl, b1, b2, b3, b0, b4, b5, b6, b7⟩
    · omega
    obtain ⟨zs, hzs⟩ := b4.rest.resolve_left ht8
    have hzl := hzs.len (fun x c => CR.len t x c)
    have hcl : cur.toList.length = c * t.size := by rw [Array.length_toList, b2]
    rw [List.length_drop, hcl, <- Nat.sub_mul] at hzl
    have hzl2 : zs.length = c - n := Nat.eq_of_mul_eq_mul_right hts hzl.symm
    obtain ⟨z, zs', rfl⟩ : ∃ z zs', zs = z :: zs' := by
      cases zs with
      | nil => simp at hzl2; omega
      | cons z zs' => exact ⟨z, zs', rfl⟩
    have hone : ∀ i, dl ι 0 (.slice (some ⟨b, pre.size, none⟩) (n + 1) c) (i + 1) = ι (i + 1) := fun i => by simp [dl]
    have hzero : dl ι 0 (.slice (some ⟨b, pre.size, none⟩) (n + 1) c) 0 = .slice (some ⟨b, pre.size, none⟩) (n + 1) c := by simp [dl]
    have hblk : ∀ i, blk (dl ι 0 (.slice (some ⟨b, pre.size, none⟩) (n + 1) c) i) = blk (ι i) := fun i => by
      cases i with
      | zero => rw [hzero, o1]; simp [blk]
      | succ i => rw [hone]
    have hown : ∀ i, (getOb [Ob.arr e t (xs ++ [z]) false, .arr e t [y] false] i).owns = (getOb [Ob.arr e t xs false, .arr e t [y] false] i).owns := fun i => by cases i <;> rfl
    have hall := Chunks.append _ _ _ _ b5 hzs
    rw [List.take_append_drop] at hall
    have hall2 : Chunks (CR φ w t) ((xs ++ [z]) ++ zs') cur.toList := by simpa using hall
    have hn1 : (xs ++ [z]).length = n + 1 := by simp [o2]
    have hrel2 : HRel φ (dl ι 0 (.slice (some ⟨b, pre.size, none⟩) (n + 1) c)) w [Ob.arr e t (xs ++ [z]) false, .arr e t [y] false] := by
      refine ⟨fun o => ?_, fun o o' b' h1 h2 h3 h4 => ?_, hrel.phi, fun o i hbx => ?_, hrel.glob⟩
      · match o with
        | 0 =>
          show ORel φ _ w 0 (.arr e t (xs ++ [z]) false)
          refine ⟨some ⟨b, pre.size, none⟩, n + 1, c, hzero, hn1, hlt, o4, .inr ⟨b, pre, cur, fr, rfl, b1, b2, b3, b0, ⟨b4.one, .inr ⟨zs', ?_⟩⟩, ?_, fun k hk => ?_, fun h => by cases h⟩⟩
          · have := hall2.drop (fun x c => CR.len t x c) (n + 1)
            rwa [<- hn1, List.drop_left, hn1] at this
          · have := hall2.take (fun x c => CR.len t x c) (n + 1)
            rwa [<- hn1, List.take_left, hn1] at this
          · exact absurd (b6 k hk).1 (by simp)
        | 1 =>
          have := hrel.obj 1
          show ORel φ _ w 1 (.arr e t [y] false)
          obtain ⟨A1, n1, c1, p1, p2⟩ := this
          exact ⟨A1, n1, c1, (hone 0).trans p1, p2⟩
        | o + 2 => trivial
      · rw [hown] at h1 h2
        rw [hblk] at h3 h4
        exact hrel.apart o o' b' h1 h2 h3 h4
      · match o, hbx with
        | 0, hbx => simp [getOb, Ob.ids] at hbx
        | 1, hbx => simp [getOb, Ob.ids] at hbx
        | o + 2, hbx => simp [getOb, Ob.ids] at hbx
    have st2 : Step φ ι w [Ob.arr e t xs false, .arr e t [y] false] φ (dl ι 0 (.slice (some ⟨b, pre.size, none⟩) (n + 1) c)) w [Ob.arr e t (xs ++ [z]) false, .arr e t [y] false] :=
      ⟨fun _ _ h => h, fun _ _ _ => rfl, fun _ _ h => .inl h, Nat.le_refl _, rfl, rfl, rfl, fun _ _ _ => rfl, fun b' ⟨o, h1, h2⟩ => .inr ⟨o, by rw [<- hown]; exact h1, by rw [<- hblk]; exact h2⟩⟩
    refine Calls.mono ((gB z).2 φ _ w #[ι 0, v1, v2] hrel2 (fun i hi => ?_) ⟨ι 0, _, rfl, ?_, v1, _, rfl, ?_, v2, _, rfl, ?_, rfl⟩ (fun i hi => ?_)) fun en w' => ?_
    · match i, hi with
      | 0, _ => rfl
      | 1, _ => rfl
      | i + 2, hi => simp at hi; omega
    · exact xC ⟨some ⟨b, pre.size, none⟩, n + 1, c, some ⟨b, pre.size, none⟩, hzero, Nat.zero_le _, by rw [o2]; omega, hlt, by rw [o1, o2]; rfl, fun _ => by simp [bC], fun _ => ⟨b, _, rfl⟩⟩
    · exact RV.rel_mono (fun _ _ h => h) (fun _ _ _ => rfl) _ _ (fun i hi => absurd hi (by simp [RV.ids])) r1
    · refine RV.rel_mono (fun _ _ h => h) (fun _ _ _ => rfl) _ _ (fun i hi => ?_) r2
      have : i = 1 := by simpa [RV.ids] using hi
      subst this; exact hone 0
    · have : i = 0 \/ i = 1 := by simpa [RV.idsL, RV.ids] using hi
      rcases this with rfl | rfl <;> rfl
    · rintro ⟨v, φ2, ι2, he, h', s', k', hr, hlv⟩
      have hone2 : ∀ i, dl ι2 0 (ι 0) (i + 1) = ι2 (i + 1) := fun i => by simp [dl]
      have hz2 : dl ι2 0 (ι 0) 0 = ι 0 := by simp [dl]
      have s2 := st2.trans s'
      refine ⟨v, φ2, dl ι2 0 (ι 0), he, ⟨fun o => ?_, fun o o' b' h1 h2 h3 h4 => ?_, h'.phi, fun o i hbx => ?_, h'.glob⟩, ⟨s2.phi, s2.cells, s2.newphi, s2.size, s2.os, s2.tape, s2.output, s2.blocks, fun b' ⟨o, h1, h2⟩ => ?_⟩, ⟨fun o ho => ?_, fun o ho => ?_⟩, ?_, hlv⟩
      · match o with
        | 0 => trivial
        | 1 =>
          obtain ⟨A1, n1, c1, p1, p2⟩ := h'.obj 1
          exact ⟨A1, n1, c1, (hone2 0).trans p1, p2⟩
        | 2 =>
          obtain ⟨A1, n1, c1, p1, p2⟩ := h'.obj 2
          exact ⟨A1, n1, c1, (hone2 1).trans p1, p2⟩
        | o + 3 => trivial
      · cases o with
        | zero => cases h1
        | succ o =>
          cases o' with
          | zero => cases h2
          | succ o' =>
            rw [hone2] at h3 h4
            exact h'.apart _ _ b' h1 h2 h3 h4
      · match o, hbx with
        | 0, hbx => simp [getOb, Ob.ids] at hbx
        | 1, hbx => simp [getOb, Ob.ids] at hbx
        | 2, hbx => simp [getOb, Ob.ids] at hbx
        | o + 3, hbx => simp [getOb, Ob.ids] at hbx
      · cases o with
        | zero => cases h1
        | succ o =>
          rw [hone2] at h2
          exact s2.own b' ⟨o + 1, h1, h2⟩
      · match o, ho with
        | 0, _ => exact hz2
        | 1, _ => rw [hone2, k'.iota 1 rfl, hone]
        | o + 2, ho => cases ho
      · match o, ho with
        | 0, _ => rfl
        | 1, _ => rfl
        | o + 2, ho => cases ho
      · refine RV.rel_mono (fun _ _ h => h) (fun _ _ _ => rfl) _ _ (fun i hi => ?_) hr
        have : i = 2 := by simpa [RV.ids] using hi
        subst this; exact hone2 1
theorem akm [Env] {F : Fx} (tab : TabOK P F.cx) (hG : aC P F.Γ) (hm : P.follows .mixedOrders = true) {f : FuncId} {fn : Func} {e : TypeId} {t : Ty} {bytes : Nat} (ht8 : decide (t = .int .u8) = false) (hts : Nat.blt 0 t.size = true) (hf : P.funcs[f]? = some fn) (hb : fn.body = some (aG fn)) (hok : (dn fn.ntmps (aG fn) && !(fn.name == "runtime.NumGoroutine") && !hasRf (aG fn) && !hasDf (aG fn) && Nat.ble fn.ntmps gd && Nat.ble fn.results.size gd) = true) (hl : aS (aG fn) 0 = [])
    (hres : Nat.beq fn.results.size 1 = true) (hnt : Nat.ble 3 fn.ntmps = true) (hmF : F.m = 2)
    (hA : ∀ (i : Int) (xs ys : List t.den), (ald F fn (akl e t) [.clip t xs, .dat (.int .i64) i, .own t 1] [.gone, .arr e t ys false]).val = aoB bytes t.zero i xs ys)
    (hB : ∀ (i : Int) (xs : List t.den) (z : t.den) (ys : List t.den), (ald F fn (akl e t) [.view t 0 0 xs.length, .dat (.int .i64) i, .own t 1] [.arr e t (xs ++ [z]) false, .arr e t ys false]).val = aoC bytes i xs z ys) :
    EntOK P ⟨f, anW e t, akl e t, fun s => amM (α := t.den) bytes s⟩ := by
  intro args H s r hs hz
  have hse := Shape.dec_enc hs
  obtain ⟨i, xs, ys, u⟩ := s
  have hz : amM (α := t.den) bytes (i, xs, ys, u) = some r := hz
  unfold amM at hz
  simp only at hz
  cases hcnd : decide ((0 : Int) <= i) && decide (i <= (xs.length : Int)) && decide (ys.length = 1) && decide (xs.length + 1 < 1000000000000000000) && decide ((xs.length + 1) * bytes <= ai)
  · rw [hcnd] at hz; cases hz
  rw [hcnd, cond_true] at hz
  simp only [Bool.and_eq_true, decide_eq_true_eq] at hcnd
  obtain ⟨⟨⟨⟨c1, c2⟩, c3⟩, c4⟩, c5⟩ := hcnd
  obtain ⟨k, rfl⟩ := Int.eq_ofNat_of_zero_le c1
  obtain ⟨y, rfl⟩ := List.length_eq_one_iff.1 c3
  obtain rfl := Option.some.inj hz
  have c2 : k <= xs.length := Int.ofNat_le.1 c2
  rw [Int.toNat_natCast]
  have hse := (amN e t (k : Int) xs [y]).symm.trans hse
  injection hse with h1 h2
  obtain rfl : args = [.own t 0, .dat (.int .i64) (k : Int), .own t 1] := (ah3 0 [.own t 0, .dat (.int .i64) (k : Int), .own t 1] args h1).symm
  subst h2
  have hres' : fn.results.size = 1 := Nat.eq_of_beq_eq_true hres
  have hk4 : (akl e t).regs.map (·.1) = List.range' 0 fn.results.size := by rw [hres']; rfl
  have gA := acV tab hG hm hf hb hok hl hk4 (args := [.clip t xs, .dat (.int .i64) (k : Int), .own t 1]) (H := [.gone, .arr e t [y] false]) (Nat.le_of_ble_eq_true hnt) hmF ((hA k xs [y]).trans (alM c2 c4 c5))
  have gB := fun z => acV tab hG hm hf hb hok hl hk4 (args := [.view t 0 0 xs.length, .dat (.int .i64) (k : Int), .own t 1]) (H := [.arr e t (xs ++ [z]) false, .arr e t [y] false]) (Nat.le_of_ble_eq_true hnt) hmF ((hB k xs z [y]).trans (alN c2 c4 c5))
  have hze := amO e t [y] (xs.take k ++ [y] ++ xs.drop k)
  have gA := Eq.mp (congrArg (fun E : St => GOK P f [.clip t xs, .dat (.int .i64) (k : Int), .own t 1] [.gone, .arr e t [y] false] (l9 E.regs) E.heap) hze) gA
  have gB := fun z => Eq.mp (congrArg (fun E : St => GOK P f [.view t 0 0 xs.length, .dat (.int .i64) (k : Int), .own t 1] [.arr e t (xs ++ [z]) false, .arr e t [y] false] (l9 E.regs) E.heap) hze) (gB z)
  exact Eq.mpr (congrArg (fun E : St => GOK P f [.own t 0, .dat (.int .i64) (k : Int), .own t 1] [.arr e t xs false, .arr e t [y] false] (l9 E.regs) E.heap) hze) (ajb _ (of_decide_eq_false ht8) (Nat.le_of_ble_eq_true hts) gA gB)
end
open Go.RowKit Go.Shelf
def anH (s : List UInt8 × List UInt8 × Unit) : Option (Int × Unit) :=
  bif Nat.blt 8 s.1.length && Nat.blt s.1.length 4294967281 && Nat.ble 2 s.2.1.length && Nat.blt s.2.1.length 4294967281 && s.2.1.all (fun b => Nat.blt b.toNat 128) then some (Lib.indexAny s.1 s.2.1, ()) else none
section
variable {P : Program}
def orE {α : Type} (a b : Option α) : Option α := match a with | some z => some z | none => b
theorem HRel.below [Env] {φ : Phi} {ι : Nat -> Value} {w w' : World} {H : List Ob} (h : HRel φ ι w H) (b : Below w.heap.size w w') : HRel φ ι w' H /\ Step φ ι w H φ ι w' H := by
  have hg : Grew w w' := ⟨b.os, b.tape, b.output, b.size, fun k hk => b.block k hk⟩
  have hc : ∀ b k, φ b k -> w'.cell? ⟨b, k, none⟩ = w.cell? ⟨b, k, none⟩ := fun b k hk => hg.cell (iW h hk)
  refine ⟨h.update (fun _ => False) (fun _ _ => rfl) (fun _ _ => rfl) (fun _ h => h) (fun _ h => h.elim) (fun _ h => h.elim) (fun i b' _ ho hb' => hg.blocks b' (qF h ho hb')) hc (fun _ _ _ h => h.elim), ⟨fun _ _ h => h, hc, fun _ _ h => .inl h, hg.size, hg.os, hg.tape, hg.output, fun b' hb' _ => hg.blocks b' hb', fun _ h => .inr h⟩⟩
end
open Go.RowKit
section
variable {P : Program} {φ : Phi} {ι : Nat -> Value} {w : World} {H : List Ob}
def aov [Env] (P : Program) (F : Fx) (n : Nat) (C : Fx -> Code -> Nat -> St -> DT (Ex × St)) (c : Code) : Prop :=
  ∀ (nt : NT) (st : St) (e : Ex) (st' : St) (φ : Phi) (ι : Nat -> Value) (w : World) (a : Act) (Q : Exit -> Act -> World -> Prop), nt.n = n -> (C F c 0 st).val = some (e, st') -> SRel φ ι w nt st a -> eU F.m st.heap ->
    (∀ a' w' φ' ι', SRel φ' ι' w' nt st' a' -> Step φ ι w st.heap φ' ι' w' st'.heap -> KeepM F.m ι st.heap ι' st'.heap -> Q (yF e) a' w') -> c.wpIn (FW nt.ro) 0 P Q a w
theorem aiK [Env] {F : Fx} {n : Nat} {c : Code} (tab : TabOK P F.cx) (hG : aC P F.Γ) (hm : P.follows .mixedOrders = true) (hl : ∀ q ∈ aS c 0, jY P F n q.1 q.2) (hc : (dn n c && !hasRf c && !hasDf c) = true) : aov P F n evC c := by
  intro nt st e st' φ ι w a Q hn h sr lm kk
  subst hn
  simp only [Bool.and_eq_true, Bool.not_eq_true'] at hc
  exact fC tab hG hm c 0 st e st' φ ι w a Q h hl hc.1.1 (bM _ hc.1.2) (NtOK.no hc.1.2 hc.2) sr lm kk
theorem adf {φ : Phi} {ι : Nat -> Value} {w : World} {H : List Ob} : ∀ (ps : List Nat) (rs : List RV) (vs : List Value) (R : Regs) (t : Array Value), (∀ p ∈ ps, p < t.size) -> RV.relT φ ι w rs vs -> (∀ i ∈ RV.idsL rs, (getOb H i).live = true) -> ps.length = rs.length ->
    (∀ d r, R.get d = some r -> r.rel φ ι w (t.getD d undef) /\ ∀ i ∈ r.ids, (getOb H i).live = true) ->
    ((ps.zip vs).foldl (fun t q => t.setIfInBounds q.1 q.2) t).size = t.size /\ ∀ d r, (yv ps rs R).get d = some r -> r.rel φ ι w (((ps.zip vs).foldl (fun t q => t.setIfInBounds q.1 q.2) t).getD d undef) /\ ∀ i ∈ r.ids, (getOb H i).live = true
  | [], rs, vs, R, t, _, _, _, _, h => by
    refine ⟨by simp, fun d r hd => ?_⟩
    have : yv [] rs R = R := by cases rs <;> rfl
    rw [this] at hd
    simpa using h d r hd
  | p :: ps, [], vs, R, t, _, _, _, hl, h => by simp at hl
  | p :: ps, r :: rs, vs, R, t, hp, hr, hlv, hl, h => by
    obtain ⟨v, m, rfl, h1, h2⟩ := hr
    have hlt : p < t.size := hp p (by simp)
    have ih := adf ps rs m (R.put p r) (t.setIfInBounds p v) (fun q hq => by simp; exact hp q (by simp [hq])) h2 (fun i hi => hlv i (by simp [RV.idsL, hi])) (by simpa using hl) (fun d x hx => by
      rw [Regs.get_put] at hx
      by_cases hd : d = p
      · subst hd
        simp only [if_true, Option.some.injEq] at hx
        subst hx
        have : (t.setIfInBounds d v).getD d undef = v := by simp [Array.getD_eq_getD_getElem?, hlt]
        rw [this]
        exact ⟨h1, fun i hi => hlv i (by simp [RV.idsL, hi])⟩
      · simp only [hd, if_false] at hx
        have hne : p ≠ d := fun h => hd h.symm
        have : (t.setIfInBounds p v).getD d undef = t.getD d undef := by simp [Array.getD_eq_getD_getElem?, Array.getElem?_setIfInBounds, hne]
        rw [this]
        exact h d x hx)
    refine ⟨by simpa using ih.1, fun d x hx => ?_⟩
    have := ih.2 d x hx
    simpa using this
theorem ajL [Env] (h : HRel φ ι w H) {Y : Nat} {R : Regs} {p p' : Int} {l : Nat} (ho : getOb H 0 = .loop Y R p) (hi : ι 0 = .func (.yield l) #[] #[]) {rec' : Loop} (hst : LoopSt rec' p')
    (hrec : ∀ rec c, akS φ ι w l rec c Y R p -> rec'.params = rec.params /\ rec'.assign = rec.assign /\ rec'.body = rec.body /\ rec'.tmps = rec.tmps) :
    HRel φ ι (w.putObj l (.loop rec')) (aA H 0 (.loop Y R p')) /\ Step φ ι w H φ ι (w.putObj l (.loop rec')) (aA H 0 (.loop Y R p')) /\ Keep ι H ι (aA H 0 (.loop Y R p')) := by
  have hob := h.obj 0
  rw [ho] at hob
  obtain ⟨l2, rec, c, o1, LR⟩ := hob
  have hl2 : l2 = l := ua (o1.symm.trans hi)
  subst hl2
  obtain ⟨r1, r2, r3, r4⟩ := hrec rec c LR
  have hlt := (Array.getElem?_eq_some_iff.1 LR.heap).1
  obtain ⟨a1, a2, a3, -⟩ := ajp (n := H.length) (ob := .loop Y R p') h (o := 0) (b := l2) (by rw [ho]; rfl) (by rw [hi]; rfl) (Wrote.putObj w l2 (.loop rec')) LR.phi
    ⟨l2, rec', c, hi, ⟨LR.code, World.putObj_heap_same hlt, by rw [r1]; exact LR.params, by rw [r2]; exact LR.assign, by rw [r3]; exact LR.body, by rw [r4]; exact LR.nt, hst, fun q hq => by
      rw [r4]
      exact RV.rel_mono (fun _ _ h => h) (fun b k hb => (Wrote.putObj w l2 _).cell (fun e => LR.phi k (e ▸ hb))) q.2 _ (fun _ _ => rfl) (LR.regs q hq), LR.phi⟩⟩
    (fun i hi => h.ids 0 i (by rw [ho]; exact hi)) rfl
  exact ⟨a1, a2, a3⟩
theorem aiO {Y : Nat} {e : Ex} {st st' : St} (h : (akh Y e st).val = some st') : ∃ R, getOb st.heap 0 = .loop Y R (-1) /\ st' = ⟨[(0, .dat .bool e.isNrm)], aA st.heap 0 (.loop Y R (pEx e))⟩ := by
  unfold akh at h
  split at h
  · rename_i Y3 R p hob
    cases hb : Nat.beq Y3 Y
    · simp [hb, DT.val] at h
    rw [hb, cond_true] at h
    have : Y3 = Y := by simpa using hb
    subst this
    simp only [DT.val] at h
    cases hp : decide (p = -1)
    · simp [hp] at h
    rw [hp, cond_true] at h
    simp only [Option.some.injEq] at h
    have : p = -1 := of_decide_eq_true hp
    subst this
    exact ⟨R, hob, h.symm⟩
  · simp [DT.val] at h
def anr (c : RC) (S Z : Shape) : Bool :=
  Nat.beq S.regs.length (c.params.length + 1) && c.params.all (Nat.blt · c.nt) && decide (Z.regs.map (·.1) = [0]) && Nat.ble c.nt gd
theorem alD {Z : Shape} {m : Nat} {st : St} {z : Z.ty.den} (h : (Z.take m st).val = some z) : (Z.enc z).regs.map (·.1) = Z.regs.map (·.1) := by
  unfold Shape.take at h
  obtain ⟨⟨st', hh, nn, pp⟩, k1, k2⟩ := DT.val_bind_some h
  simp only [DT.val_ofOpt] at k2
  unfold Shape.dec at k2
  cases ha : db Z.regs st'.regs with
  | none => simp [ha] at k2
  | some x =>
    cases hb : bT Z.objs st'.heap with
    | none => simp [ha, hb] at k2
    | some y =>
      have := gq _ _ x [] ha
      rw [Shape.dec_enc (st := st') (by simp only [Shape.dec, ha, hb] at k2 ⊢; exact k2)]
      exact iC _ _ _ _ this
theorem amg [Env] {F : Fx} {C : Fx -> Code -> Nat -> St -> DT (Ex × St)} {Y : Nat} {c : RC} {S Z : Shape} {g : S.ty.den -> Option Z.ty.den} (hcode : Env.code Y = some c) (hok : anr c S Z = true) (hmF : F.m = S.objs.length) (hA : aov P F c.nt C c.assign) (hB : aov P F c.nt C c.body)
    (hg : ∀ s, (aiR F C Y c S Z s).val = g s) : ai9 P ⟨Y, S, Z, g⟩ := by
  intro args H s z hs hz
  have hse := Shape.dec_enc hs
  simp only [anr, Bool.and_eq_true, decide_eq_true_eq, Nat.beq_eq, List.all_eq_true] at hok
  obtain ⟨⟨⟨hok1, hok2⟩, hok3⟩, hok4⟩ := hok
  have hok4 := Nat.le_of_ble_eq_true hok4
  have hlenS : args.length = S.regs.length /\ H.length = S.objs.length := by
    unfold Shape.dec at hs
    simp only at hs
    cases ha : db S.regs (bv 0 args) with
    | none => simp [ha] at hs
    | some x =>
      cases hb : bT S.objs H with
      | none => simp [ha, hb] at hs
      | some y =>
        refine ⟨by rw [<- ln _ _ _ ha, (cP args 0).2.1], ?_⟩
        have : ∀ (s : List SO) (R : List Ob) (l : List DV), bT s R = some l -> R.length = s.length := by
          intro s
          induction s with
          | nil => intro R l h; cases R <;> simp [bT] at h ⊢
          | cons a s ih =>
            intro R l h
            cases R with
            | nil => simp [bT] at h
            | cons b R =>
              simp only [bT] at h
              split at h
              · obtain ⟨b, hb, -⟩ := Option.map_eq_some_iff.1 h
                simp [ih R b hb]
              · cases h
        exact this _ _ _ hb
  have e : (aiR F C Y c S Z s).val = some z := (hg s).trans hz
  unfold aiR at e
  simp only at hse
  rw [hse] at e
  cases args with
  | nil => simp [bv, DT.val] at e
  | cons a0 args =>
  cases H with
  | nil =>
    simp [bv, DT.val] at e
  | cons ob H =>
  simp only [bv] at e
  split at e
  case h_2 => simp [DT.val] at e
  rename_i d0 Y0 ar Y1 R p H' q1 q2
  injection q1 with q1 q1'
  injection q1 with q11 q12
  injection q2 with q2 q2'
  subst q12 q1' q2 q2'
  cases hbY : Nat.beq Y1 Y
  · simp [hbY, DT.val] at e
  rw [hbY, cond_true] at e
  have hYY : Y1 = Y := by simpa using hbY
  subst hYY
  simp only [DT.val] at e
  cases hp0 : decide (p = 0)
  · simp [hp0] at e
  rw [hp0, cond_true] at e
  have hp0 : p = 0 := of_decide_eq_true hp0
  subst hp0
  split at e
  · simp [DT.val] at e
  rename_i hnogd
  obtain ⟨⟨e1, st1⟩, h1, e⟩ := DT.val_bind_some e
  have hargs2 : (bv (0 + 1) args).map (·.2) = args := by
    have : ∀ (l : List RV) (k : Nat), (bv k l).map (·.2) = l := by
      intro l
      induction l with
      | nil => intro k; rfl
      | cons x l ih => intro k; simp [bv, ih]
    exact this _ _
  rw [hargs2] at h1 hnogd
  intro φ ι w vs hrel hlive hargs hids
  obtain ⟨v0, vr, hvs, hv0, hvr⟩ := hargs
  obtain ⟨hv0, l, hv0l⟩ := hv0
  have hob0 := hrel.obj 0
  obtain ⟨l2, rec, c2, o1, LR⟩ := hob0
  have hl2 : l2 = l := ua (o1.symm.trans (hv0.symm.trans hv0l))
  subst hl2
  have hcc : c2 = c := Option.some.inj (LR.code.symm.trans hcode)
  subst hcc
  have hvsA : vs = (v0 :: vr).toArray := by apply Array.ext'; simpa using hvs
  have hext : vs.extract 1 vs.size = vr.toArray := by rw [hvsA]; simp
  have hlenv : vr.length = args.length := by
    have : ∀ (l : List RV) (vs : List Value), RV.relT φ ι w l vs -> vs.length = l.length := by
      intro l
      induction l with
      | nil => intro vs h; simp only [RV.relT] at h; simp [h]
      | cons r l ih => intro vs h; obtain ⟨v, m, rfl, -, h⟩ := h; simp [ih m h]
    exact this _ _ hvr
  have hlenp : args.length = c2.params.length := by
    have := hlenS.1
    simp at this
    omega
  have hready : rec.state = .ready /\ rec.pending = none := by
    rcases LR.st with ⟨-, a, b⟩ | ⟨a, -⟩ | ⟨e', a, b, -⟩
    · exact ⟨a, b⟩
    · omega
    · exact absurd (aec (e := e') (f := .nrm) (a.symm)) b
  refine (Does.round (by unfold jm; rw [hcode]; rfl)).2 ⟨l2, ?_, ?_⟩
  · rw [hvsA]; simp [hv0l]
  rw [hext]
  refine ⟨rec.fn, _, rec.assign, rec.body, run_yield LR.heap (by simp; rw [hlenv, hlenp, <- LR.params]; simp), roundIn_of_wpIn (F := FW none) trivial ?_⟩
  rw [LR.assign, LR.body]
  -- the temporaries
  obtain ⟨tm, htm⟩ : ∃ tm, (rec.params.zip vr.toArray).foldl (fun tmps (q : Tmp × Value) => tmps.setIfInBounds q.1 q.2) rec.tmps = tm := ⟨_, rfl⟩
  have htm2 : (c2.params.zip vr).foldl (fun t (q : Nat × Value) => t.setIfInBounds q.1 q.2) rec.tmps = tm := by
    rw [<- htm, <- LR.params, <- Array.foldl_toList]
    simp
  have PA := adf (φ := φ) (ι := ι) (w := w) (H := .loop Y1 R 0 :: H) c2.params args vr R rec.tmps (fun q hq => by rw [LR.nt]; simpa using hok2 q hq) hvr (fun i hi => hids i (by simp [RV.idsL, hi])) hlenp.symm (fun d r hd => ⟨LR.regs _ (Regs.get_mem hd), fun i hi => hrel.ids 0 i (Regs.mem_ids (Regs.get_mem hd) i hi)⟩)
  rw [htm2] at PA
  have sr0 : SRel φ ι w ⟨c2.nt, w.heap.size, [], some l2, false⟩ ⟨yv c2.params args R, .loop Y1 R 0 :: H⟩ { tmps := tm, defers := [] } := ⟨hrel, fun d r hd => by
    rw [eM (fun e => by rw [e] at hd; rw [hd] at hnogd; cases hnogd)]
    exact PA.2 d r hd, PA.1.trans LR.nt, hok4, nd (Nat.le_refl _)⟩
  have lm0 : eU F.m (.loop Y1 R 0 :: H) := by
    rw [hmF, <- hlenS.2]
    exact fun o ho => hlive o ho
  have hmpos : 0 < F.m := by rw [hmF, <- hlenS.2]; simp
  show c2.assign.wpIn (FW (some l2)) 0 P _ { tmps := (rec.params.zip vr.toArray).foldl (fun tmps (q : Tmp × Value) => tmps.setIfInBounds q.1 q.2) rec.tmps, defers := [] } w
  rw [htm]
  refine hA ⟨c2.nt, w.heap.size, [], some l2, false⟩ _ e1 st1 φ ι w _ _ rfl h1 sr0 lm0 fun a1 w1 φ1 ι1 sr1 sp1 kp1 => ?_
  cases e1 with
  | exit i => simp [DT.val] at e
  | ret => simp [DT.val] at e
  | nrm =>
  simp only at e
  split at e
  case h_2 => simp [DT.val] at e
  rename_i Y2 R2 p2 hob1
  cases hb2 : Nat.beq Y2 Y1
  · simp [hb2, DT.val] at e
  rw [hb2, cond_true] at e
  have : Y2 = Y1 := by simpa using hb2
  subst this
  simp only [DT.val] at e
  cases hp2 : decide (p2 = 0)
  · simp [hp2] at e
  rw [hp2, cond_true] at e
  have : p2 = 0 := of_decide_eq_true hp2
  subst this
  obtain ⟨⟨e2, st2⟩, h2, e⟩ := DT.val_bind_some e
  obtain ⟨st3, h3, h4⟩ := DT.val_bind_some e
  have lm1 := kp1.live lm0
  have hi1 : ι1 0 = .func (.yield l2) #[] #[] := by
    rw [(kp1 0 hmpos (lm0 0 hmpos)).1]; exact o1
  have hrec1 : ∃ rec1 c1, akS φ1 ι1 w1 l2 rec1 c1 Y2 R2 0 := by
    have := sr1.heap.obj 0
    rw [hob1] at this
    obtain ⟨l3, rec1, c1, o3, L1⟩ := this
    have : l3 = l2 := ua (o3.symm.trans hi1)
    subst this
    exact ⟨rec1, c1, L1⟩
  obtain ⟨rec1, c1, L1⟩ := hrec1
  have hst1 : rec1.state = .ready := by
    rcases L1.st with ⟨-, a, b⟩ | ⟨a, -⟩ | ⟨e', a, b, -⟩
    · exact a
    · omega
    · exact absurd (aec (e := e') (f := .nrm) (a.symm)) b
  simp only [yF, Exit.then]
  refine ⟨_, run_beginRound L1.heap hst1, ?_⟩
  obtain ⟨t1, t2, t3⟩ := ajL sr1.heap hob1 hi1 (rec' := { rec1 with state := .busy }) (p' := -1) (.inr (.inl ⟨rfl, rfl⟩)) (fun rec c h => by
    have := L1.heap.symm.trans h.heap
    have : rec1 = rec := by simpa using this
    subst this
    exact ⟨rfl, rfl, rfl, rfl⟩)
  have sr1' : SRel φ1 ι1 (w1.putObj l2 (.loop { rec1 with state := .busy })) ⟨c2.nt, w.heap.size, [], some l2, false⟩ ⟨st1.regs, aA st1.heap 0 (.loop Y2 R2 (-1))⟩ a1 :=
    ⟨t1, fun d r hd => ⟨RV.rel_step t2 t3 (sr1.regs d r hd).2 (sr1.regs d r hd).1, fun i hi => t3.live i ((sr1.regs d r hd).2 i hi)⟩, sr1.nt, sr1.small, sr1.defers.step t2⟩
  have lm1' : eU F.m (aA st1.heap 0 (.loop Y2 R2 (-1))) := (t3.keepM F.m).live lm1
  refine hB ⟨c2.nt, w.heap.size, [], some l2, false⟩ _ e2 st2 φ1 ι1 _ _ _ rfl h2 sr1' lm1' fun a2 w2 φ2 ι2 sr2 sp2 kp2 => ?_
  obtain ⟨R3, hob2, hst3⟩ := aiO h3
  have lm2 := kp2.live lm1'
  have hi2 : ι2 0 = .func (.yield l2) #[] #[] := by
    rw [(kp2 0 hmpos (lm1' 0 hmpos)).1]; exact hi1
  obtain ⟨rec2, c3, L2⟩ : ∃ rec2 c3, akS φ2 ι2 w2 l2 rec2 c3 Y2 R3 (-1) := by
    have := sr2.heap.obj 0
    rw [hob2] at this
    obtain ⟨l4, rec4, c4, o4, L4⟩ := this
    have : l4 = l2 := ua (o4.symm.trans hi2)
    subst this
    exact ⟨rec4, c4, L4⟩
  have fin : ∀ (jump : Option Code), (match e2 with | .nrm => jump = none | e => jump = some (exC e)) -> ∃ v w', (Instr.endRound l2 jump).run P w2 = .ok v w' /\ (∃ v' φ' ι', Ending.returned v = .returned v' /\ HRel φ' ι' w' (Z.enc z).heap /\ Step φ ι w (.loop Y2 R 0 :: H) φ' ι' w' (Z.enc z).heap /\ Keep ι (.loop Y2 R 0 :: H) ι' (Z.enc z).heap /\ (l9 (Z.enc z).regs).rel φ' ι' w' v' /\ ∀ i ∈ (l9 (Z.enc z).regs).ids, (getOb (Z.enc z).heap i).live = true) := by
    intro jump hj
    refine ⟨_, _, run_endRound jump L2.heap, ?_⟩
    obtain ⟨u1, u2, u3⟩ := ajL sr2.heap hob2 hi2 (rec' := { rec2 with state := if jump.isNone then .ready else .done, pending := jump }) (p' := pEx e2) (by
      cases e2 with
      | nrm => simp only at hj; subst hj; exact .inl ⟨rfl, rfl, rfl⟩
      | ret => simp only at hj; subst hj; exact .inr (.inr ⟨.ret, rfl, by simp, rfl, rfl⟩)
      | exit i => simp only at hj; subst hj; exact .inr (.inr ⟨.exit i, rfl, by simp, rfl, rfl⟩)) (fun rec c h => by
      have := L2.heap.symm.trans h.heap
      have : rec2 = rec := by simpa using this
      subst this
      exact ⟨rfl, rfl, rfl, rfl⟩)
    obtain ⟨w3, hw3⟩ : ∃ w3, w2.putObj l2 (.loop { rec2 with state := if jump.isNone then .ready else .done, pending := jump }) = w3 := ⟨_, rfl⟩
    rw [hw3] at u1 u2 ⊢
    have hjb : jump.isNone = e2.isNrm := by
      cases e2 with
      | nrm => simp only at hj; subst hj; rfl
      | ret => simp only at hj; subst hj; rfl
      | exit i => simp only at hj; subst hj; rfl
    have sr3 : SRel φ2 ι2 w3 ⟨1, 0, [], none, false⟩ st3 { tmps := #[.bool jump.isNone], defers := [] } := by
      rw [hst3]
      refine ⟨u1, fun d r hd => ?_, rfl, Nat.le_of_ble_eq_true rfl, nd (Nat.zero_le _)⟩
      simp only [Regs.get] at hd
      cases hd0 : Nat.beq d 0
      · simp [hd0] at hd
      · simp only [hd0, cond_true, Option.some.injEq] at hd
        have : d = 0 := by simpa using hd0
        subst this hd
        rw [hjb, eM (by decide)]
        exact ⟨cQ (VR.bool.2 rfl), by simp [RV.ids]⟩
    have lm3 : eU F.m st3.heap := by
      rw [hst3]
      exact (u3.keepM F.m).live lm2
    obtain ⟨φ3, ι3, m1, m2, m3, m4, m5⟩ := dB h4 sr3 lm3
    have hkZ := (alD h4).trans hok3
    have hZlen : (Z.enc z).regs.length = (#[Value.bool jump.isNone] : Array Value).size := by
      have := congrArg List.length hkZ
      simpa using this
    obtain ⟨r1, r2⟩ := vf (vs := #[Value.bool jump.isNone]) (R := (Z.enc z).regs) (by rw [hkZ]; have := congrArg List.length hkZ; simp at this; rw [this]; rfl) hZlen (tv (a := { tmps := #[.bool jump.isNone], defers := [] }) (by rw [hkZ]; have := congrArg List.length hkZ; simp at this; rw [this]; rfl) (by rw [hZlen]; exact Nat.le_of_ble_eq_true rfl) m1.regs)
    have hh3 : st3.heap = aA st2.heap 0 (.loop Y2 R3 (pEx e2)) := by rw [hst3]
    rw [hh3] at m2 m3
    refine ⟨_, φ3, ι3, rfl, m1.heap, (((sp1.trans t2).trans sp2).trans u2).trans m2, ?_, by simpa using r1, r2⟩
    have km := (((kp1.trans (t3.keepM F.m)).trans kp2).trans (u3.keepM F.m)).trans m3
    refine ⟨fun o ho => ?_, fun o ho => ?_⟩
    · have hlt : o < F.m := by rw [hmF, <- hlenS.2]; exact aP ho
      exact (km o hlt ho).1
    · have hlt : o < F.m := by rw [hmF, <- hlenS.2]; exact aP ho
      exact (km o hlt ho).2
  cases e2 with
  | nrm => exact fin none rfl
  | ret => exact fin (some .ret) rfl
  | exit i => exact fin (some (.exit i)) rfl
theorem akD [Env] {F : Fx} {Y : Nat} {c : RC} {S Z : Shape} {g : S.ty.den -> Option Z.ty.den} (tab : TabOK P F.cx) (hG : aC P F.Γ) (hm : P.follows .mixedOrders = true) (hcode : Env.code Y = some c) (hok : anr c S Z = true) (hmF : F.m = S.objs.length)
    {m : List (Nat × Code)} (hl : aS (.seq c.assign c.body) 0 = m) (hin : qf P F c.nt m) (hc : (dn c.nt (.seq c.assign c.body) && !hasRf (.seq c.assign c.body) && !hasDf (.seq c.assign c.body)) = true) (hg : ∀ s, (aiR F evC Y c S Z s).val = g s) : ai9 P ⟨Y, S, Z, g⟩ := by
  have hall := tz hl hin
  simp only [dn, hasRf, hasDf, Bool.and_eq_true, Bool.not_eq_true', Bool.or_eq_false_iff] at hc
  exact amg hcode hok hmF (aiK tab hG hm (fun q hq => hall q (by simp [aS, hq])) (by simp [hc.1.1.1, hc.1.2.1, hc.2.1])) (aiK tab hG hm (fun q hq => hall q (by simp [aS, hq])) (by simp [hc.1.1.2, hc.1.2.2, hc.2.2])) hg
def amt [Env] (F : Fx) : List (Nat × RC) -> Prop
  | [] => True
  | q :: l => (∀ Y, F.rfs q.1 = some Y -> Env.code Y = some q.2) /\ amt F l
def aol (P : Program) : List Nat -> Prop
  | [] => True
  | f :: l => (∃ fn, P.funcs[f]? = some fn /\ (fn.name == "runtime.NumGoroutine") = false /\ fn.body.isNone = false) /\ aol P l
theorem aoL [Env] {F : Fx} {q : Nat × RC} {Y : Nat} (h : F.rfs q.1 = some Y) (hc : Env.code Y = some q.2) : ∀ Y, F.rfs q.1 = some Y -> Env.code Y = some q.2 := fun Z hZ => by
  rw [h] at hZ
  obtain rfl := Option.some.inj hZ
  exact hc
theorem aoh [Env] {F : Fx} {n : Nat} {c : Code} {m : List (Nat × RC)} {its : List Nat} (hm : og n c = m) (h : amt F m) (hi : F.its = its) (h2 : aol P its) : ur P F n c := by
  have hall : ∀ (l : List (Nat × RC)), amt F l -> ∀ q ∈ l, ∀ Y, F.rfs q.1 = some Y -> Env.code Y = some q.2 := by
    intro l
    induction l with
    | nil => intro _ q hq; cases hq
    | cons a l ih =>
      intro h q hq
      rcases List.mem_cons.1 hq with rfl | hq
      · exact h.1
      · exact ih h.2 q hq
  have hits : ∀ f ∈ F.its, ∃ fn, P.funcs[f]? = some fn /\ (fn.name == "runtime.NumGoroutine") = false /\ fn.body.isNone = false := by
    rw [hi]
    clear hi
    induction its with
    | nil => intro f hf; cases hf
    | cons a l ih =>
      intro f hf
      rcases List.mem_cons.1 hf with rfl | hf
      · exact h2.1
      · exact ih h2.2 f hf
  have key : ∀ c, (∀ q ∈ og n c, ∀ Y, F.rfs q.1 = some Y -> Env.code Y = some q.2) -> ur P F n c := by
    intro c
    induction c with
    | seq a b iha ihb => intro h; exact ⟨iha fun q hq => h q (by simp [og, hq]), ihb fun q hq => h q (by simp [og, hq])⟩
    | cond x a b iha ihb => intro h; exact ⟨iha fun q hq => h q (by simp [og, hq]), ihb fun q hq => h q (by simp [og, hq])⟩
    | block i c ih => intro h; exact ih fun q hq => h q (by simpa [og] using hq)
    | scope c ih => intro h; exact ih fun q hq => h q (by simpa [og] using hq)
    | rangeFunc g ps a b => intro h; exact ⟨fun Y hY => h (rid a b, ⟨ps.toList, a, b, n⟩) (by simp [og]) Y hY, hits⟩
    | _ => intro _; trivial
  exact key c fun q hq => hall m h q (by rw [<- hm]; exact hq)
end
open Go.RowKit
section
variable {P : Program} {cx : Cx} {φ : Phi} {ι : Nat -> Value} {w : World} {H : List Ob} {nt : NT} {st st' : St} {a : Act}
theorem ake : ∀ (s : List SO) (R : List Ob) (l : List DV), bT s R = some l -> R.length = s.length := by
  intro s
  induction s with
  | nil => intro R l h; cases R <;> simp [bT] at h ⊢
  | cons a s ih =>
    intro R l h
    cases R with
    | nil => simp [bT] at h
    | cons b R =>
      simp only [bT] at h
      split at h
      · obtain ⟨b, hb, -⟩ := Option.map_eq_some_iff.1 h
        simp [ih R b hb]
      · cases h
theorem ala {S : Shape} {s : S.ty.den} (h : S.dec st = some s) : st.regs.length = S.regs.length /\ st.heap.length = S.objs.length := by
  unfold Shape.dec at h
  cases ha : db S.regs st.regs with
  | none => simp [ha] at h
  | some x =>
    cases hb : bT S.objs st.heap with
    | none => simp [ha, hb] at h
    | some y => exact ⟨ln _ _ _ ha, ake _ _ _ hb⟩
theorem ajD {S : Shape} {m : Nat} {s : S.ty.den} (e : (S.take m st).val = some s) : (S.enc s).heap.length = S.objs.length := by
  unfold Shape.take at e
  obtain ⟨⟨st', h', n', p'⟩, e1, e2⟩ := DT.val_bind_some e
  simp only [DT.val_ofOpt] at e2
  rw [Shape.dec_enc e2]
  exact (ala e2).2
theorem anm : ∀ (l m : List RV) (xs ys : List Value), RV.relT φ ι w l xs -> RV.relT φ ι w m ys -> RV.relT φ ι w (l ++ m) (xs ++ ys) := by
  intro l
  induction l with
  | nil => intro m xs ys h1 h2; simp only [RV.relT] at h1; subst h1; exact h2
  | cons r l ih => intro m xs ys h1 h2; obtain ⟨v, m', rfl, h3, h4⟩ := h1; exact ⟨v, m' ++ ys, rfl, h3, ih m m' ys h4 h2⟩
theorem amH : ∀ (l m : List RV), RV.idsL (l ++ m) = RV.idsL l ++ RV.idsL m := by
  intro l m
  induction l with
  | nil => rfl
  | cons r l ih => simp [RV.idsL, ih]
theorem aht [Env] {fn : Func} {args : List RV} {vs : Array Value} (hrel : HRel φ ι w H) (hargs : RV.relT φ ι w args vs.toList) (hids : ∀ i ∈ RV.idsL args, (getOb H i).live = true) (hsz : vs.size <= fn.ntmps) (hsm : fn.ntmps <= gd) (hlen : vs.size = args.length) :
    SRel φ ι w ⟨fn.ntmps, w.heap.size, [], none, true⟩ ⟨(bv 0 args).put gd (.tup []), H⟩ { tmps := vs ++ Array.replicate (fn.ntmps - vs.size) undef, defers := [] } := by
  refine ⟨hrel, fun d r hd => ?_, by simp; omega, hsm, nd (Nat.le_refl _)⟩
  have hd : ((bv 0 args).put gd (.tup [])).get d = some r := hd
  rw [Regs.get_put] at hd
  by_cases hdg : d = gd
  · subst hdg
    simp only [if_true, Option.some.injEq] at hd
    subst hd
    rw [vm]
    exact ⟨⟨#[], rfl, rfl⟩, by simp [RV.ids, RV.idsL]⟩
  · simp only [hdg, if_false] at hd
    obtain ⟨k1, k2, k3⟩ := cP args 0
    obtain ⟨k, hk, hkk⟩ := gu _ 0 d r (by rw [k1, k2]) hd
    have hk' : d = k := by omega
    subst hk'
    have hget := k3 d (d, r) hkk
    simp only at hget
    obtain ⟨v, hv, hrv⟩ := oe hargs hget
    have hv' : vs[d]? = some v := by simpa using hv
    have hdlt : d < vs.size := (Array.getElem?_eq_some_iff.1 hv').1
    have : (vs ++ Array.replicate (fn.ntmps - vs.size) undef).getD d undef = v := by
      rw [Array.getD_eq_getD_getElem?, Array.getElem?_append_left hdlt, hv']
      rfl
    rw [eM hdg, this]
    exact ⟨hrv, fun i hi => hids i (nR hget i hi)⟩
def alb (fn : Func) : Bool :=
  dn fn.ntmps (aG fn) && !hasRf (aG fn) && !hasDf (aG fn) && Nat.ble fn.ntmps gd && !(fn.name == "runtime.NumGoroutine") && fn.results.toList.isEmpty
def amB (fn : Func) (S Z : Shape) : Bool :=
  dn fn.ntmps (aG fn) && !hasRf (aG fn) && Nat.ble fn.ntmps gd && Nat.ble fn.results.size gd && !(fn.name == "runtime.NumGoroutine") && Nat.ble S.regs.length fn.ntmps && decide (Z.regs.map (·.1) = List.range' 0 fn.results.size)
set_option maxHeartbeats 1000000 in
theorem akf [Env] {Fd : Fx} {m : Nat} {L : Lp} {fd : FuncId} {fnd fn : Func} (tab : TabOK P Fd.cx) (hG : aC P Fd.Γ) (hm : P.follows .mixedOrders = true) (hf : P.funcs[fd]? = some fnd) (hb : fnd.body = some (aG fnd)) (hok : alb fnd = true)
    (hl : ∀ q ∈ aS (aG fnd) 0, jY P Fd fnd.ntmps q.1 q.2) (hmd : Fd.m = L.S.objs.length) (hdf : nt.df) {R : Ending -> World -> Prop} {o : L.Out} :
    ∀ n s φ ι w a, eC (fun s => (uz L m Fd fd fnd s).val) n s = some o -> SRel φ ι w nt (L.S.enc s) a -> (L.S.enc s).heap.length = L.S.objs.length -> eU (L.S.enc s).heap.length (L.S.enc s).heap -> eU m (L.S.enc s).heap ->
      (∀ x w' φ' ι', o = .inl x -> anF φ' ι' w' (L.X.enc x) a -> SRel φ' ι' w' nt (L.X.enc x) { a with defers := [] } -> Step φ ι w (L.S.enc s).heap φ' ι' w' (L.X.enc x).heap -> KeepM m ι (L.S.enc s).heap ι' (L.X.enc x).heap -> ∃ v, (results fn a.tmps).run P w' = .ok v w' /\ R (.returned v) w') ->
      LeavesInM (FW none) 0 P fn a.tmps R a.defers .returning w := by
  intro n
  induction n with
  | zero => intro s φ ι w a h; cases h
  | succ n ih =>
    intro s φ ι w a h sr hlen lmA lm kk
    simp only [eC] at h
    cases hb1 : (uz L m Fd fd fnd s).val with
    | none => simp [hb1] at h
    | some r =>
    simp only [hb1] at h
    unfold uz at hb1
    split at hb1
    · rename_i f A B t xs hgd
      have q := DT.val_bif hb1
      clear hb1
      obtain ⟨hff, hb1⟩ := q
      simp only [Bool.and_eq_true, Nat.beq_eq] at hff
      obtain ⟨hff, hnt⟩ := hff
      have hnt := Nat.le_of_ble_eq_true hnt
      subst hff
      obtain ⟨⟨vs, hvs, hvl, hall⟩, hids⟩ := sr.regs gd _ hgd
      rw [vm] at hvs
      have hvs : a.defers.map adx = vs := by simpa using hvs
      cases xs with
      | nil =>
        simp only [List.isEmpty_nil, DT.val, cond_true] at hb1
        obtain ⟨x, e1, e2⟩ := DT.val_bind_some hb1
        simp only [DT.val, Option.some.injEq] at e2
        subst e2
        simp only [Option.some.injEq] at h
        subst h
        have hd0 : a.defers = [] := by
          have : (a.defers.map adx).length = 0 := by rw [hvs]; simpa using hvl
          simpa using this
        have hst : (⟨(L.S.enc s).regs, (L.S.enc s).heap⟩ : St) = L.S.enc s := rfl
        rw [hst] at e1
        obtain ⟨φ', ι', k1, k2, k3, -, -⟩ := dB e1 sr lm
        rw [hd0]
        have ha : { a with defers := [] } = a := by cases a; simp only at hd0; subst hd0; rfl
        exact kk x w φ' ι' rfl k1.rr (by rw [ha]; exact k1) k2 k3
      | cons x l =>
        simp only [List.isEmpty_cons, DT.val, cond_false, List.head?_cons, List.tail_cons] at hb1
        obtain ⟨⟨e1, st1⟩, h1, h2⟩ := DT.val_bind_some hb1
        clear hb1
        obtain ⟨hge, h3⟩ : (e1 = .nrm \/ e1 = .ret) /\ st1.regs.get gd = some (.tup []) /\ ((L.S.take m ⟨(L.S.enc s).regs.put gd (.dfr f A B t l), st1.heap⟩).bind fun s => DT.leaf (Sum.inl (β := L.Out) s)).val = some r := by
          cases e1 with
          | exit i => simp [DT.val] at h2
          | nrm =>
            simp only at h2
            split at h2
            · rename_i hg; cases hg
            · rename_i hg _; exact ⟨.inl rfl, hg, h2⟩
            · simp [DT.val] at h2
          | ret =>
            simp only at h2
            split at h2
            · rename_i hg; cases hg
            · rename_i hg _; exact ⟨.inr rfl, hg, h2⟩
            · simp [DT.val] at h2
        obtain ⟨hg1, h3⟩ := h3
        obtain ⟨s', h4, h5⟩ := DT.val_bind_some h3
        simp only [DT.val, Option.some.injEq] at h5
        subst h5
        simp only at h
        -- the call
        cases vs with
        | nil => simp at hvl
        | cons u vs =>
        obtain ⟨c1, cv, c2, rfl, r1, r2, r3⟩ := hall 0 x u rfl rfl
        obtain ⟨d, ds, hds, hd1, hd2⟩ : ∃ d ds, a.defers = d :: ds /\ adx d = .func (.func f) #[] (c1 ++ cv :: c2).toArray /\ ds.map adx = vs := by
          cases hdd : a.defers with
          | nil => rw [hdd] at hvs; simp at hvs
          | cons d ds =>
            rw [hdd] at hvs
            simp only [List.map_cons, List.cons.injEq] at hvs
            exact ⟨d, ds, rfl, hvs.1, hvs.2⟩
        obtain ⟨ht, hta⟩ : d.target = .fn (.func f) (c1 ++ cv :: c2).toArray /\ d.args = #[] := by
          unfold adx at hd1
          split at hd1
          · rename_i g y hg
            injection hd1 with q1 q2 q3
            exact ⟨by rw [hg, q1, q3], q2⟩
          · cases hd1
        simp only [alb, Bool.and_eq_true, Bool.not_eq_true', List.isEmpty_iff] at hok
        obtain ⟨⟨⟨⟨⟨ok1, ok2⟩, ok3⟩, ok4⟩, ok5⟩, ok6⟩ := hok
        have ok4 := Nat.le_of_ble_eq_true ok4
        rw [hds]
        refine ⟨by simp, .inr ⟨(fun h => (by cases h)), .func f, _, f, #[] ++ (c1 ++ cv :: c2).toArray, ht, ?_, fun _ _ => trivial, ?_⟩⟩
        · rw [ht, hta]
          have hf4 : ¬ fnd.name = "runtime.NumGoroutine" := by simpa using ok5
          simp only [invoke]
          unfold callFunc
          simp [hf, hf4, hb]
        have hargs : RV.relT φ ι w (A ++ .fptr t x :: B) (#[] ++ (c1 ++ cv :: c2).toArray).toList := by
          simp only [Array.empty_append]
          refine anm _ _ _ _ r1 ⟨cv, c2, rfl, r2, r3⟩
        obtain ⟨args, hargsE⟩ : ∃ args : Array Value, #[] ++ (c1 ++ cv :: c2).toArray = args := ⟨_, rfl⟩
        rw [hargsE] at hargs ⊢
        have hidsA : ∀ i ∈ RV.idsL (A ++ .fptr t x :: B), (getOb (L.S.enc s).heap i).live = true := by
          intro i hi
          refine hids i ?_
          rw [amH] at hi
          simpa [RV.ids, RV.idsL] using hi
        have hszA : args.size = (A ++ RV.fptr t x :: B).length := by
          have : ∀ (l : List RV) (vs : List Value), RV.relT φ ι w l vs -> vs.length = l.length := by
            intro l
            induction l with
            | nil => intro vs h; simp only [RV.relT] at h; simp [h]
            | cons r l ih => intro vs h; obtain ⟨v, m, rfl, -, h⟩ := h; simp [ih m h]
          simpa using this _ _ hargs
        refine CallsDIn.mono (callsDIn_of_wp (F := FW none) hf hb trivial (R := fun e w' => ∃ v, e = .returned v /\ LeavesInM (FW none) 0 P fn a.tmps R ds .returning w') ?_) fun e u' w' => ?_
        · have sr0 : SRel φ ι w ⟨fnd.ntmps, w.heap.size, [], none, true⟩ ⟨(bv 0 (A ++ .fptr t x :: B)).put gd (.tup []), (L.S.enc s).heap⟩ { tmps := args ++ Array.replicate (fnd.ntmps - args.size) undef, defers := [] } := by
            refine aht sr.heap hargs hidsA ?_ ok4 hszA
            rw [hszA]
            simp only [List.length_append, List.length_cons]
            omega
          refine fC tab hG hm (aG fnd) 0 _ e1 st1 φ ι w _ _ h1 hl ok1 (bM _ ok2) (NtOK.no ok2 ok3) sr0 (by rw [hmd, <- hlen]; exact lmA) fun a' w' φ' ι' sr' sp kp => ?_
          have hdd : a'.defers = [] := by
            obtain ⟨⟨vs', hv1, hv2⟩, -⟩ := sr'.regs gd _ hg1
            rw [vm] at hv1
            simp only [RV.relT] at hv2
            have : vs' = #[] := by cases vs'; simpa using hv2
            subst this
            simpa using hv1
          have hres := j3 (P := P) (fn := fnd) (a := a') (vs := []) (w := w') (by rw [ok6]; rfl)
          have hpost : a'.defers = [] /\ ∃ v, (results fnd a'.tmps).run P w' = .ok v w' /\ ∃ v', Ending.returned v = .returned v' /\ LeavesInM (FW none) 0 P fn a.tmps R ds .returning w' := by
            refine ⟨hdd, _, hres, _, rfl, ?_⟩
            have KP : Keep ι (L.S.enc s).heap ι' st1.heap := by
              rw [hmd, <- hlen] at kp
              exact ⟨fun o ho => (kp o (aP ho) ho).1, fun o ho => (kp o (aP ho) ho).2⟩
            have sr1 : SRel φ' ι' w' nt ⟨(L.S.enc s).regs.put gd (.dfr f A B t l), st1.heap⟩ { a with defers := ds } := by
              refine ⟨sr'.heap, fun d' r' hd' => ?_, sr.nt, sr.small, ⟨Nat.le_trans sr.defers.1 sp.size, fun h => by rw [hdf.2.1] at h; cases h⟩⟩
              have hd' : ((L.S.enc s).regs.put gd (.dfr f A B t l)).get d' = some r' := hd'
              rw [Regs.get_put] at hd'
              by_cases hdg : d' = gd
              · subst hdg
                simp only [if_true, Option.some.injEq] at hd'
                subst hd'
                have old : (RV.dfr f A B t l).rel φ ι w (.tuple vs.toArray) := ⟨vs, rfl, by simpa using hvl, fun i y u' hy hu => hall (i + 1) y u' (by simpa using hy) (by simpa using hu)⟩
                rw [vm]
                simp only [hd2]
                exact ⟨RV.rel_step sp KP hids old, fun i hi => KP.live i (hids i hi)⟩
              · simp only [hdg, if_false] at hd'
                have h0 := sr.regs d' r' hd'
                rw [eM hdg] at h0 ⊢
                exact ⟨RV.rel_step sp KP h0.2 h0.1, fun i hi => KP.live i (h0.2 i hi)⟩
            have lm1 : eU m st1.heap := fun o ho => KP.live o (lm o ho)
            obtain ⟨φ2, ι2, k1, k2, k3, k4, k5⟩ := dB h4 sr1 lm1
            refine ih s' φ2 ι2 w' { a with defers := ds } h k1 (ajD h4) k5 (k3.live lm1) fun x w3 φ3 ι3 ho q1 q2 q3 q4 => ?_
            exact kk x w3 φ3 ι3 ho ⟨q1.heap, q1.regs⟩ q2 ((sp.trans k2).trans q3) (((KP.keepM m).trans k3).trans q4)
          rcases hge with rfl | rfl
          · exact hpost
          · exact hpost
        · rintro ⟨rfl, v, rfl, hL⟩
          exact hL
    · simp [DT.val] at hb1
set_option maxHeartbeats 1000000 in
theorem alI [Env] {F Fd : Fx} (tab : TabOK P F.cx) (hG : aC P F.Γ) (hm : P.follows .mixedOrders = true) {f : FuncId} {fn : Func} {S Z : Shape} (hf : P.funcs[f]? = some fn) (hb : fn.body = some (aG fn)) (hok : amB fn S Z = true) (hin : ∀ q ∈ aS (aG fn) 0, jY P F fn.ntmps q.1 q.2)
    {L : Lp} {fd : FuncId} {fnd : Func} {g : L.S.ty.den -> Option L.Out} (hΛ : F.Λ gd = L.go g F.m) (tabd : TabOK P Fd.cx) (hGd : aC P Fd.Γ) (hfd : P.funcs[fd]? = some fnd) (hbd : fnd.body = some (aG fnd)) (hokd : alb fnd = true)
    (hld : ∀ q ∈ aS (aG fnd) 0, jY P Fd fnd.ntmps q.1 q.2) (hmd : Fd.m = L.S.objs.length) (hg : ∀ s o, g s = some o -> ∃ n, eC (fun s => (uz L F.m Fd fd fnd s).val) n s = some o)
    {args : List RV} (hmF : F.m = S.objs.length) {s : S.ty.den} {z : Z.ty.den} (hs : S.dec ⟨bv 0 args, H⟩ = some s) (e : (ale F fn S Z s).val = some z) : GOK P f args H (l9 (Z.enc z).regs) (Z.enc z).heap := by
  have hse := Shape.dec_enc hs
  simp only [amB, Bool.and_eq_true, Bool.not_eq_true', decide_eq_true_eq] at hok
  obtain ⟨⟨⟨⟨⟨⟨hok1, hnrf⟩, hsm⟩, hrs⟩, hok2⟩, hok3⟩, hok4⟩ := hok
  have hsm := Nat.le_of_ble_eq_true hsm
  have hrs := Nat.le_of_ble_eq_true hrs
  have hlenS : args.length = S.regs.length /\ H.length = S.objs.length := by
    have := ala hs
    exact ⟨by rw [<- this.1]; exact ((cP args 0).2.1).symm, this.2⟩
  unfold ale at e
  rw [hb] at e
  simp only [Option.getD_some] at e
  obtain ⟨⟨e1, st0⟩, h1, h2⟩ := DT.val_bind_some e
  have h3 : e1 = .nrm \/ e1 = .ret := by
    cases e1 with
    | nrm => exact .inl rfl
    | ret => exact .inr rfl
    | exit i => simp [DT.val] at h2
  have h4 : ((F.Λ gd st0).bind fun q => ((oX F.cx q.2.regs 0 fn.results.toList).run q.2.heap q.2.heap.length .none).bind fun (R, h, _, _) => Z.take F.m ⟨R, h⟩).val = some z := by
    rcases h3 with rfl | rfl <;> exact h2
  clear h2 e
  obtain ⟨⟨e2, st1⟩, h5, h6⟩ := DT.val_bind_some h4
  clear h4
  simp only at h6
  rw [hΛ] at h5
  unfold Lp.go at h5
  obtain ⟨s1, t1, t2⟩ := DT.val_bind_some h5
  clear h5
  obtain ⟨o, ho, he⟩ : ∃ o, g s1 = some o /\ (e2, st1) = L.fin o := by
    cases hfs : g s1 with
    | none => simp [hfs, DT.val] at t2
    | some o =>
      refine ⟨o, rfl, ?_⟩
      cases o with
      | inl x => simp only [hfs, DT.val, Option.some.injEq] at t2; exact t2.symm
      | inr y => simp only [hfs, DT.val, Option.some.injEq] at t2; exact t2.symm
  obtain ⟨n, hn⟩ := hg s1 o ho
  obtain ⟨⟨R, hh, n5, p5⟩, g6, h7⟩ := DT.val_bind_some h6
  have h6' := HM.go_run _ _ _ _ _ _ _ _ g6
  have hkeysZ : (Z.enc z).regs.map (·.1) = List.range' 0 fn.results.size := by
    obtain ⟨⟨st', hh, nn, pp⟩, k1, k2⟩ := DT.val_bind_some h7
    simp only [DT.val_ofOpt] at k2
    have k3 : (Z.enc z).regs.map (·.1) = Z.regs.map (·.1) := by
      unfold Shape.dec at k2
      cases ha : db Z.regs st'.regs with
      | none => simp [ha] at k2
      | some x =>
        cases hb : bT Z.objs st'.heap with
        | none => simp [ha, hb] at k2
        | some y =>
          have := gq _ _ x [] ha
          rw [Shape.dec_enc (st := st') (by simp only [Shape.dec, ha, hb] at k2 ⊢; exact k2)]
          exact iC _ _ _ _ this
    rw [k3, hok4]
  refine ⟨⟨fn, hf, hok2, by rw [hb]; rfl⟩, ?_⟩
  intro φ ι w vs hrel hlive hargs hids
  refine ach hf hb ?_
  have hvs : vs.size = args.length := by
    have : ∀ (l : List RV) (vs : List Value), RV.relT φ ι w l vs -> vs.length = l.length := by
      intro l
      induction l with
      | nil => intro vs h; simp only [RV.relT] at h; simp [h]
      | cons r l ih => intro vs h; obtain ⟨v, m, rfl, -, h⟩ := h; simp [ih m h]
    simpa using this _ _ hargs
  have hsz : vs.size <= fn.ntmps := by
    rw [hvs, hlenS.1]; exact Nat.le_of_ble_eq_true hok3
  rw [hse] at h1
  have sr0 := aht (fn := fn) hrel hargs hids hsz hsm hvs
  have lm0 : eU F.m H := by
    rw [hmF, <- hlenS.2]
    exact fun o ho => hlive o ho
  refine fC tab hG hm (aG fn) 0 _ e1 st0 φ ι w _ _ h1 hin hok1 (bM _ hnrf) (NtOK.fnD hnrf) sr0 lm0 fun a' w' φ' ι' sr' sp kp => ?_
  have lm1 := kp.live lm0
  obtain ⟨φ1, ι1, k1, k2, k3, k4, k5⟩ := dB t1 sr' lm1
  have key : LeavesInM (FW none) 0 P fn a'.tmps (fun e w' => ∃ v φ' ι', e = .returned v /\ HRel φ' ι' w' (Z.enc z).heap /\ Step φ ι w H φ' ι' w' (Z.enc z).heap /\ Keep ι H ι' (Z.enc z).heap /\ (l9 (Z.enc z).regs).rel φ' ι' w' v /\ ∀ i ∈ (l9 (Z.enc z).regs).ids, (getOb (Z.enc z).heap i).live = true) a'.defers .returning w' := by
    refine akf tabd hGd hm hfd hbd hokd hld hmd ⟨rfl, rfl, rfl⟩ n s1 φ1 ι1 w' a' hn k1 (ajD t1) k5 (k3.live lm1) fun x w2 φ2 ι2 hx q1 q2 q3 q4 => ?_
    subst hx
    have he1 : st1 = L.X.enc x := by
      have := congrArg Prod.snd he
      exact this
    subst he1
    have sp2 := (sp.trans k2).trans q3
    have kp2 := (kp.trans k3).trans q4
    have lm2 := kp2.live lm0
    obtain ⟨p1, p2, us, p3, p4, p5, p6⟩ := j1 tab fn.results.toList 0 R (L.X.enc x).heap _ hh n5 h6' q1.heap q1.regs
    have hR : R.length = us.length := by
      have := congrArg List.length p5
      simpa [p4] using this
    have hus : us.toArray.size = fn.results.size := by simpa using p4
    have sr2 : SRel φ2 ι2 w2 ⟨us.toArray.size, 0, [], none, false⟩ ⟨R, hh⟩ { tmps := us.toArray, defers := [] } := by
      rw [p1]
      refine ⟨q1.heap, fun d r hd => ?_, rfl, by rw [hus]; exact hrs, nd (Nat.zero_le _)⟩
      obtain ⟨k, hk, hkk⟩ := gu R 0 d r (by rw [p5]; congr 1; omega) hd
      have hk' : d = k := by omega
      subst hk'
      obtain ⟨v, hv, hrv, hlv⟩ := p6 d (d, r) hkk
      have : us.toArray.getD d undef = v := by simp [Array.getD_eq_getD_getElem?, hv]
      have hdlt : d < us.length := (List.getElem?_eq_some_iff.1 hv).1
      have hus' : us.length = us.toArray.size := by simp
      rw [eM (by omega)]
      simp only [this]
      exact ⟨hrv, hlv⟩
    obtain ⟨φ3, ι3, m1, m2, m3, m4, m5⟩ := dB h7 sr2 (by rw [p1]; exact lm2)
    have hZlen : (Z.enc z).regs.length = us.toArray.size := by
      have := congrArg List.length hkeysZ
      simp only [List.length_map, List.length_range'] at this
      rw [this, hus]
    have hk0 : (Z.enc z).regs.map (·.1) = List.range' 0 (Z.enc z).regs.length := by rw [hkeysZ, hZlen, hus]
    obtain ⟨r1, r2⟩ := vf (vs := us.toArray) (R := (Z.enc z).regs) hk0 hZlen (tv (a := { tmps := us.toArray, defers := [] }) hk0 (by rw [hZlen, hus]; exact hrs) m1.regs)
    have hres := j3 p3
    refine ⟨_, hres, _, φ3, ι3, rfl, m1.heap, ?_, ?_, r1, r2⟩
    · rw [p1] at m2
      exact sp2.trans m2
    · rw [p1] at m3
      have km := kp2.trans m3
      refine ⟨fun o ho => ?_, fun o ho => ?_⟩
      · have hlt : o < F.m := by rw [hmF, <- hlenS.2]; exact aP ho
        exact (km o hlt ho).1
      · have hlt : o < F.m := by rw [hmF, <- hlenS.2]; exact aP ho
        exact (km o hlt ho).2
  rcases h3 with rfl | rfl
  · exact key
  · exact key
theorem akj [Env] {F Fd : Fx} (tab : TabOK P F.cx) (hG : aC P F.Γ) (hm : P.follows .mixedOrders = true) {E : Ent} {fn : Func} (hf : P.funcs[E.f]? = some fn) (hb : fn.body = some (aG fn)) (hok : amB fn E.S E.Z = true) {m : List (Nat × Code)} (hl : aS (aG fn) 0 = m) (hin : qf P F fn.ntmps m)
    {L : Lp} {fd : FuncId} {fnd : Func} {b : L.S.ty.den -> Option (L.S.ty.den ⊕ L.Out)} {g : L.S.ty.den -> Option L.Out} (hgb : ∀ s, g s = aR b s) (hΛ : F.Λ gd = L.go g F.m) (tabd : TabOK P Fd.cx) (hGd : aC P Fd.Γ) (hfd : P.funcs[fd]? = some fnd) (hbd : fnd.body = some (aG fnd)) (hokd : alb fnd = true)
    (hld : aS (aG fnd) 0 = []) (hmd : Fd.m = L.S.objs.length) (hbb : ∀ s, (uz L F.m Fd fd fnd s).val = b s) (hmF : F.m = E.S.objs.length) (hg : ∀ s, (ale F fn E.S E.Z s).val = E.g s) : EntOK P E :=
  fun args H s z hs hz => alI (L := L) (g := g) tab hG hm hf hb hok (tz hl hin) hΛ tabd hGd hfd hbd hokd (by rw [hld]; simp) hmd (fun s o h => by
    rw [hgb] at h
    obtain ⟨n, hn⟩ := aeS h
    exact ⟨n, by rw [show (fun s => (uz L F.m Fd fd fnd s).val) = b from funext hbb]; exact hn⟩) hmF hs ((hg s).trans hz)
end
open Go.RowKit
def acS (P : Program) : DataW (List UInt8) -> Option Nat -> Bool
  | .nil, none => true
  | .held (b :: r), some f => decide (((List.range P.funcs.size).filter fun f => (P.funcs[f]?).any (·.name.toUTF8.data.toList == b :: r)) = [f])
  | _, _ => false
def acd (P : Program) : List (DataW (List UInt8)) -> List (Option Nat) -> Bool
  | [], [] => true
  | d :: ds, o :: os => acS P d o && acd P ds os
  | _, _ => false
theorem aeq {P : Program} : ∀ (ds : List (DataW (List UInt8))) (os : List (Option Nat)), acd P ds os = true -> ∀ (i : Nat) (o : Option Nat), os[i]? = some o -> ∃ d, ds[i]? = some d /\ acS P d o = true
  | [], [], _, i, o, h => by simp at h
  | [], _ :: _, h, _, _, _ => by simp [acd] at h
  | _ :: _, [], h, _, _, _ => by simp [acd] at h
  | d :: ds, o :: os, h, i, o', hi => by
    simp only [acd, Bool.and_eq_true] at h
    cases i with
    | zero =>
      simp only [List.getElem?_cons_zero, Option.some.injEq] at hi
      subst hi
      exact ⟨d, rfl, h.1⟩
    | succ i => simpa using aeq ds os h.2 i o' (by simpa using hi)
theorem al0 {P : Program} {w : World} {base : Nat} {sp : Nat -> Bool} {fuel : Nat} {e : TypeId} {ps rs : Array TypeId} {va : Bool} {v : Value} {q : List MemPlace} {d : DataW (List UInt8)} {o : Option Nat}
    (ht : P.underlying e = some (.func ps rs va)) (ha : acS P d o = true) (h : DataW.trod (funcToken P) P w base sp true fuel e [v] = some (d, q)) : v = fval o := by
  cases d with
  | nil =>
    cases o with
    | some f => simp [acS] at ha
    | none =>
      cases fuel with
      | zero => simp [DataW.trod] at h
      | succ n => cases v <;> simp [DataW.trod, ht] at h <;> rfl
  | held k =>
    cases k with
    | nil => cases o <;> simp [acS] at ha
    | cons b r =>
      cases o with
      | none => simp [acS] at ha
      | some f =>
        simp only [acS, decide_eq_true_eq] at ha
        exact func_of_trod ht ha h
  | _ => cases o <;> simp [acS] at ha
theorem alK {P : Program} {w : World} {n : String} {d : DataW Unit} (h : funcsAt P w n d) {g t e : Nat} {fs : List (Option Nat)} {ps rs : Array TypeId} {va : Bool} {ds : List (DataW (List UInt8))} (hd : d.funcsOut = .agg ds) (hg : P.globalNamed n = some g) (ht : (P.globals[g]?).map (·.type) = some t)
    (hu : P.underlying t = some (.array fs.length e)) (hu2 : P.underlying e = some (.func ps rs va)) (hc : P.cellsOf e = 1) (ha : acd P ds fs = true) : At (Told w) w g 0 (fs.map fval) := by
  obtain ⟨g', t', cs, fuel, p, hg', ht', hv, hr⟩ := h
  obtain rfl := Option.some.inj (hg.symm.trans hg')
  obtain rfl := Option.some.inj (ht.symm.trans ht')
  rw [hd] at hr
  obtain ⟨xs, m, _, hx, hcs, hlen, hel⟩ := DataW.trod_array hu hr
  simp only [Prod.mk.injEq, DataW.agg.injEq] at hx
  obtain ⟨hds, -⟩ := hx
  intro i v hi
  rw [List.getElem?_map] at hi
  obtain ⟨o, ho, rfl⟩ := Option.map_eq_some_iff.1 hi
  obtain ⟨di, hdi, hai⟩ := aeq ds fs ha i o ho
  have hlt : i < fs.length := (List.getElem?_eq_some_iff.1 ho).1
  have hE := hel i hlt
  rw [hc, Nat.mul_one] at hE
  rw [hds, List.getElem?_map] at hdi
  obtain ⟨y, hy, rfl⟩ := Option.map_eq_some_iff.1 hdi
  rw [hy] at hE
  have hcell := World.var?_cell hg hv i
  have key : ∃ u, cs[i]? = some u /\ (cs.toList.drop i).take 1 = [u] := by
    cases hu : cs[i]? with
    | some u =>
      have h1 : cs.toList[i]? = some u := by simpa using hu
      refine ⟨u, rfl, ?_⟩
      obtain ⟨h2, h3⟩ := List.getElem?_eq_some_iff.1 h1
      rw [List.drop_eq_getElem_cons h2, h3]
      rfl
    | none =>
      have h1 : cs.toList.length <= i := by simpa using hu
      rw [List.drop_of_length_le h1] at hE
      cases m with
      | zero => simp [DataW.trod] at hE
      | succ m => simp [DataW.trod, hu2] at hE
  obtain ⟨u, hu1, hu3⟩ := key
  rw [hu3] at hE
  have := al0 hu2 hai (d := y.1) (q := y.2) hE
  rw [hu1, this] at hcell
  rw [Nat.zero_add]
  exact ⟨⟨_, hcell⟩, hcell⟩
open Go.RowKit Go.Shelf
def an7 (s : List UInt8 × List UInt8 × Unit) : Option (List UInt8 × Unit) :=
  bif Nat.blt s.1.length 4294967281 && Nat.blt s.2.1.length 4294967281 && s.2.1.all (fun b => Nat.blt b.toNat 128) then some (Lib.trimS s.1 s.2.1, ()) else none
section
variable {P : Program}
end
end Go.X
