/- Plain functions, by program. -/
import Derived.Test.YtknndobfgfmjeaaX2
set_option linter.unusedVariables false
open Go Go.X
namespace D
abbrev api_Range : Type := (Int) × (Int) × Unit
abbrev api_Shape : Type := (Int) × (Int) × (Int) × Unit
abbrev api_Span : Type := (List UInt8) × (List UInt8) × Unit
abbrev api_Pair : Type := (List UInt8) × (List UInt8) × (Int) × Unit
abbrev api_Sum : Type := (api_Range) × (api_Range) × Unit
abbrev api_Msg : Type := (Int) × (List UInt8) × (List UInt8) × (api_Span) × (List UInt8) × (List UInt8) × (Int) × Unit
abbrev ref10_Raw : Type := (List (api_Shape)) × (List (Int)) × (List (Int)) × (List ((Int) × (Int) × (Int) × (Int) × Unit)) × (List ((Int) × (Int) × (Int) × (Int) × (Int) × (Int) × Unit)) × Unit
abbrev api_Node : Type := (List (api_Pair)) × (List (List UInt8)) × (List (Int)) × (List (api_Sum)) × (List (api_Msg)) × Unit
abbrev ref13_Split : Type := (List (api_Node)) × (List (List UInt8)) × (List (api_Msg)) × Unit
@[reducible] def tapi_Range : Ty := (.pair (.int .i64) (.pair (.int .i64) .unit))
@[reducible] def tapi_Shape : Ty := (.pair (.int .i64) tapi_Range)
@[reducible] def tapi_Span : Ty := (.pair .str (.pair .str .unit))
@[reducible] def tapi_Pair : Ty := (.pair .str (.pair .str (.pair (.int .i64) .unit)))
@[reducible] def tapi_Sum : Ty := (.pair tapi_Range (.pair tapi_Range .unit))
@[reducible] def tapi_Msg : Ty := (.pair (.int .i64) (.pair .str (.pair .str (.pair tapi_Span tapi_Pair))))
@[reducible] def tref10_Raw : Ty := (.pair (.list (.pair (.int .u8) (.pair (.int .u8) (.pair (.int .u8) .unit)))) (.pair (.list (.int .u8)) (.pair (.list (.int .u8)) (.pair (.list (.pair (.int .u8) (.pair (.int .u8) (.pair (.int .u8) (.pair (.int .u8) .unit))))) (.pair (.list (.pair (.int .u8) (.pair (.int .u8) (.pair (.int .u8) (.pair (.int .u8) (.pair (.int .u8) (.pair (.int .u8) .unit))))))) .unit)))))
@[reducible] def tapi_Node : Ty := (.pair (.list tapi_Pair) (.pair (.list .str) (.pair (.list (.int .i64)) (.pair (.list tapi_Sum) (.pair (.list tapi_Msg) .unit)))))
@[reducible] def tref13_Split : Ty := (.pair (.list tapi_Node) (.pair (.list .str) (.pair (.list tapi_Msg) .unit)))
/-! downspout/split.cut[downspout/api.Pair] -/
def split_cut_api_Pair_b0_j0 (s : (List (api_Pair)) × (Int) × (Int) × (Int) × (Int) × (Int) × (List (List (api_Pair))) × Unit) : Option (((List (api_Pair)) × (Int) × (Int) × (Int) × (List (List (api_Pair))) × Unit) ⊕ (((List (List (api_Pair))) × Unit) ⊕ (Unit))) :=
  bif (decide ((0 : Int) ≤ (0 : Int)) && decide (((0 : Int) : Int) ≤ s.2.2.2.1) && decide ((s.2.2.2.1 : Int) ≤ (List.length s.1 : Int)) && decide ((s.2.2.2.1 : Int) = s.2.2.2.1)) then
    let t0 : List (api_Pair) := (List.drop 0 (List.take (Int.toNat s.2.2.2.1) s.1))
    bif (decide ((0 : Int) ≤ s.2.2.2.1) && decide ((s.2.2.2.1 : Int) ≤ (List.length s.1 : Int)) && decide (((List.length s.1 : Int) : Int) ≤ (List.length s.1 : Int))) then
      let t1 : List (api_Pair) := (List.drop (Int.toNat s.2.2.2.1) (List.take (Int.toNat (List.length s.1 : Int)) s.1))
      bif (decide ((0 : Int) ≤ s.2.2.1) && decide ((s.2.2.1 : Int) < (List.length s.2.2.2.2.2.2.1 : Int))) then
        let t2 : List (List (api_Pair)) := (List.set s.2.2.2.2.2.2.1 (Int.toNat s.2.2.1) t0)
        let t3 : Int := (IntKind.i64.wrap (s.2.2.2.2.2.1 + (1 : Int)))
        some (.inl (t1, s.2.1, s.2.2.2.2.1, t3, t2, ()))
      else
        none
    else
      none
  else
    none

def split_cut_api_Pair_b0 (s : (List (api_Pair)) × (Int) × (Int) × (Int) × (List (List (api_Pair))) × Unit) : Option (((List (api_Pair)) × (Int) × (Int) × (Int) × (List (List (api_Pair))) × Unit) ⊕ (((List (List (api_Pair))) × Unit) ⊕ (Unit))) :=
  bif (decide ((s.2.2.2.1 : Int) < s.2.2.1)) then
    bif (decide ((IntKind.i64.wrap (s.2.1 - s.2.2.2.1)) = (0 : Int))) then
      none
    else
      let t0 : Int := (IntKind.i64.wrap (Int.tdiv ((List.length s.1) : Int) (IntKind.i64.wrap (s.2.1 - s.2.2.2.1))))
      let t1 : Int := (IntKind.i64.wrap (t0 * (IntKind.i64.wrap (s.2.1 - s.2.2.2.1))))
      let t2 : Bool := (decide ((t1 : Int) < ((List.length s.1) : Int)))
      bif t2 then
        split_cut_api_Pair_b0_j0 (s.1, s.2.1, s.2.2.2.1, (IntKind.i64.wrap (t0 + (1 : Int))), s.2.2.1, s.2.2.2.1, s.2.2.2.2.1, ())
      else
        split_cut_api_Pair_b0_j0 (s.1, s.2.1, s.2.2.2.1, t0, s.2.2.1, s.2.2.2.1, s.2.2.2.2.1, ())
  else
    some (.inr (.inl (s.2.2.2.2.1, ())))
def split_cut_api_Pair_l0 (s : (List (api_Pair)) × (Int) × (Int) × (Int) × (List (List (api_Pair))) × Unit) : Option (((List (List (api_Pair))) × Unit) ⊕ (Unit)) := loopO split_cut_api_Pair_b0 s
def split_cut_api_Pair_j0 (s : (List (api_Pair)) × (Int) × (Bool) × Unit) : Option ((List (List (api_Pair))) × Unit) :=
  bif s.2.2.1 then
    some ([], ())
  else
    let t0 : Int := (IntKind.i64.wrap (((List.length s.1) : Int) - (1 : Int)))
    bif (decide (s.2.1 = (0 : Int))) then
      none
    else
      let t1 : Int := (IntKind.i64.wrap ((IntKind.i64.wrap (Int.tdiv t0 s.2.1)) + (1 : Int)))
      bif (decide ((0 : Int) ≤ t1) && decide ((t1 : Int) ≤ t1) && decide (t1 * (24 : Int) ≤ (roomMax : Int))) then
        match split_cut_api_Pair_l0 (s.1, t1, t1, (0 : Int), (List.replicate (Int.toNat t1) []), ()) with
        | none => none
        | some (.inl z2) =>
          some (z2.1, ())
        | some (.inr z2) =>
          none
      else
        none

def split_cut_api_Pair (s : (List (api_Pair)) × (Int) × Unit) : Option ((List (List (api_Pair))) × Unit) :=
  bif (!(decide ((s.2.1 : Int) < (1 : Int)))) then
    let t0 : Bool := (decide ((((List.length s.1) : Int) : Int) = (0 : Int)))
    split_cut_api_Pair_j0 (s.1, s.2.1, t0, ())
  else
    split_cut_api_Pair_j0 (s.1, s.2.1, true, ())
/-! downspout/split.Pieces -/
def split_Pieces (s : (List (api_Pair)) × (Int) × Unit) : Option ((List (List (api_Pair))) × Unit) :=
  match split_cut_api_Pair (s.1, s.2.1, ()) with
  | none => none
  | some r0 =>
    some (r0.1, ())
/-! downspout/split.Leaf -/
def split_Leaf_b0_j0 (s : (List (api_Pair)) × (List (List (api_Pair))) × (Int) × (Int) × (List (api_Node)) × (List (List UInt8)) × Unit) : Option (((List (List (api_Pair))) × (Int) × (Int) × (List (api_Node)) × (List (List UInt8)) × Unit) ⊕ (((List (api_Node)) × (List (List UInt8)) × Unit) ⊕ (Unit))) :=
  bif (decide ((List.length s.2.2.2.2.1 + List.length ([(s.1, ([], ([], ([], ([], ())))))] : List (api_Node))) * 120 ≤ roomMax)) then
    let t0 : List (api_Node) := (s.2.2.2.2.1 ++ ([(s.1, ([], ([], ([], ([], ())))))] : List (api_Node)))
    let t1 : Int := (IntKind.i64.wrap (s.2.2.2.1 + (1 : Int)))
    some (.inl (s.2.1, s.2.2.1, t1, t0, s.2.2.2.2.2.1, ()))
  else
    none

def split_Leaf_b0 (s : (List (List (api_Pair))) × (Int) × (Int) × (List (api_Node)) × (List (List UInt8)) × Unit) : Option (((List (List (api_Pair))) × (Int) × (Int) × (List (api_Node)) × (List (List UInt8)) × Unit) ⊕ (((List (api_Node)) × (List (List UInt8)) × Unit) ⊕ (Unit))) :=
  bif (decide ((s.2.2.1 : Int) < s.2.1)) then
    bif (decide ((0 : Int) ≤ s.2.2.1) && decide ((s.2.2.1 : Int) < (List.length s.1 : Int))) then
      let t0 : Bool := (decide ((((List.length s.2.2.2.1) : Int) : Int) > (0 : Int)))
      bif t0 then
        bif (decide (((0 : Int) : Int) < (List.length (List.getD s.1 (Int.toNat s.2.2.1) []) : Int))) then
          let t1 : api_Pair := (List.getD (List.getD s.1 (Int.toNat s.2.2.1) []) 0 ([], ([], ((0 : Int), ()))))
          bif (decide ((List.length s.2.2.2.2.1 + List.length ([t1.1] : List (List UInt8))) * 16 ≤ roomMax)) then
            let t2 : List (List UInt8) := (s.2.2.2.2.1 ++ ([t1.1] : List (List UInt8)))
            split_Leaf_b0_j0 ((List.getD s.1 (Int.toNat s.2.2.1) []), s.1, s.2.1, s.2.2.1, s.2.2.2.1, t2, ())
          else
            none
        else
          none
      else
        split_Leaf_b0_j0 ((List.getD s.1 (Int.toNat s.2.2.1) []), s.1, s.2.1, s.2.2.1, s.2.2.2.1, s.2.2.2.2.1, ())
    else
      none
  else
    some (.inr (.inl (s.2.2.2.1, s.2.2.2.2.1, ())))
def split_Leaf_l0 (s : (List (List (api_Pair))) × (Int) × (Int) × (List (api_Node)) × (List (List UInt8)) × Unit) : Option (((List (api_Node)) × (List (List UInt8)) × Unit) ⊕ (Unit)) := loopO split_Leaf_b0 s
def split_Leaf (s : (api_Node) × (api_Shape) × Unit) : Option ((List (api_Node)) × (List (List UInt8)) × Unit) :=
  match split_cut_api_Pair (s.1.1, s.2.1.1, ()) with
  | none => none
  | some r0 =>
    match split_Leaf_l0 (r0.1, ((List.length r0.1) : Int), (0 : Int), [], [], ()) with
    | none => none
    | some (.inl z1) =>
      let t2 : Bool := (decide ((((List.length z1.1) : Int) : Int) = (0 : Int)))
      bif t2 then
        some (([([], ([], ([], ([], ([], ())))))] : List (api_Node)), [], ())
      else
        some (z1.1, z1.2.1, ())
    | some (.inr z1) =>
      none
/-! downspout/downspoutlaw13.leaf -/
def law13_leaf (s : (api_Node) × (api_Shape) × Unit) : Option ((ref13_Split) × Unit) :=
  match split_Leaf (s.1, s.2.1, ()) with
  | none => none
  | some r0 =>
    some ((r0.1, (r0.2.1, ([], ()))), ())
/-! downspout/downspoutlaw13.sameTexts -/
def law13_sameTexts_b0 (s : (List (List UInt8)) × (List (List UInt8)) × (Int) × Unit) : Option (((List (List UInt8)) × (List (List UInt8)) × (Int) × Unit) ⊕ (((Bool) × Unit) ⊕ (Unit))) :=
  let t0 : Bool := (decide ((s.2.2.1 : Int) < ((List.length s.1) : Int)))
  bif t0 then
    bif (decide ((0 : Int) ≤ s.2.2.1) && decide ((s.2.2.1 : Int) < (List.length s.1 : Int))) then
      bif (decide ((0 : Int) ≤ s.2.2.1) && decide ((s.2.2.1 : Int) < (List.length s.2.1 : Int))) then
        let t1 : Bool := (!decide (((List.getD s.1 (Int.toNat s.2.2.1) []) : List UInt8) = (List.getD s.2.1 (Int.toNat s.2.2.1) [])))
        bif t1 then
          some (.inr (.inl (false, ())))
        else
          some (.inl (s.1, s.2.1, (IntKind.i64.wrap (s.2.2.1 + (1 : Int))), ()))
      else
        none
    else
      none
  else
    some (.inr (.inr (())))
def law13_sameTexts_l0 (s : (List (List UInt8)) × (List (List UInt8)) × (Int) × Unit) : Option (((Bool) × Unit) ⊕ (Unit)) := loopO law13_sameTexts_b0 s
def law13_sameTexts (s : (List (List UInt8)) × (List (List UInt8)) × Unit) : Option ((Bool) × Unit) :=
  let t0 : Bool := (!decide ((((List.length s.1) : Int) : Int) = ((List.length s.2.1) : Int)))
  bif t0 then
    some (false, ())
  else
    match law13_sameTexts_l0 (s.1, s.2.1, (0 : Int), ()) with
    | none => none
    | some (.inl z1) =>
      some (z1.1, ())
    | some (.inr z1) =>
      some (true, ())
/-! downspout/downspoutref05.SameMsgs -/
def ref05_SameMsgs_b0 (s : (List (api_Msg)) × (List (api_Msg)) × (Int) × Unit) : Option (((List (api_Msg)) × (List (api_Msg)) × (Int) × Unit) ⊕ (((Bool) × Unit) ⊕ (Unit))) :=
  let t0 : Bool := (decide ((s.2.2.1 : Int) < ((List.length s.1) : Int)))
  bif t0 then
    bif (decide ((0 : Int) ≤ s.2.2.1) && decide ((s.2.2.1 : Int) < (List.length s.1 : Int))) then
      let t1 : api_Msg := (List.getD s.1 (Int.toNat s.2.2.1) ((0 : Int), ([], ([], (([], ([], ())), ([], ([], ((0 : Int), ()))))))))
      bif (decide ((0 : Int) ≤ s.2.2.1) && decide ((s.2.2.1 : Int) < (List.length s.2.1 : Int))) then
        let t2 : api_Msg := (List.getD s.2.1 (Int.toNat s.2.2.1) ((0 : Int), ([], ([], (([], ([], ())), ([], ([], ((0 : Int), ()))))))))
        let t3 : Bool := (!(Ty.eqb tapi_Msg t1 t2))
        bif t3 then
          some (.inr (.inl (false, ())))
        else
          some (.inl (s.1, s.2.1, (IntKind.i64.wrap (s.2.2.1 + (1 : Int))), ()))
      else
        none
    else
      none
  else
    some (.inr (.inr (())))
def ref05_SameMsgs_l0 (s : (List (api_Msg)) × (List (api_Msg)) × (Int) × Unit) : Option (((Bool) × Unit) ⊕ (Unit)) := loopO ref05_SameMsgs_b0 s
def ref05_SameMsgs (s : (List (api_Msg)) × (List (api_Msg)) × Unit) : Option ((Bool) × Unit) :=
  let t0 : Bool := (!decide ((((List.length s.1) : Int) : Int) = ((List.length s.2.1) : Int)))
  bif t0 then
    some (false, ())
  else
    match ref05_SameMsgs_l0 (s.1, s.2.1, (0 : Int), ()) with
    | none => none
    | some (.inl z1) =>
      some (z1.1, ())
    | some (.inr z1) =>
      some (true, ())
/-! downspout/downspoutref04.Same -/
def ref04_Same_b0 (s : (List (api_Pair)) × (List (api_Pair)) × (Int) × Unit) : Option (((List (api_Pair)) × (List (api_Pair)) × (Int) × Unit) ⊕ (((Bool) × Unit) ⊕ (Unit))) :=
  let t0 : Bool := (decide ((s.2.2.1 : Int) < ((List.length s.1) : Int)))
  bif t0 then
    bif (decide ((0 : Int) ≤ s.2.2.1) && decide ((s.2.2.1 : Int) < (List.length s.1 : Int))) then
      let t1 : api_Pair := (List.getD s.1 (Int.toNat s.2.2.1) ([], ([], ((0 : Int), ()))))
      bif (decide ((0 : Int) ≤ s.2.2.1) && decide ((s.2.2.1 : Int) < (List.length s.2.1 : Int))) then
        let t2 : api_Pair := (List.getD s.2.1 (Int.toNat s.2.2.1) ([], ([], ((0 : Int), ()))))
        let t3 : Bool := (!(Ty.eqb tapi_Pair t1 t2))
        bif t3 then
          some (.inr (.inl (false, ())))
        else
          some (.inl (s.1, s.2.1, (IntKind.i64.wrap (s.2.2.1 + (1 : Int))), ()))
      else
        none
    else
      none
  else
    some (.inr (.inr (())))
def ref04_Same_l0 (s : (List (api_Pair)) × (List (api_Pair)) × (Int) × Unit) : Option (((Bool) × Unit) ⊕ (Unit)) := loopO ref04_Same_b0 s
def ref04_Same (s : (List (api_Pair)) × (List (api_Pair)) × Unit) : Option ((Bool) × Unit) :=
  let t0 : Bool := (!decide ((((List.length s.1) : Int) : Int) = ((List.length s.2.1) : Int)))
  bif t0 then
    some (false, ())
  else
    match ref04_Same_l0 (s.1, s.2.1, (0 : Int), ()) with
    | none => none
    | some (.inl z1) =>
      some (z1.1, ())
    | some (.inr z1) =>
      some (true, ())
/-! downspout/downspoutref10.Same -/
def ref10_Same_b0 (s : (Int) × (api_Node) × (api_Node) × Unit) : Option (((Int) × (api_Node) × (api_Node) × Unit) ⊕ (((Bool) × Unit) ⊕ ((api_Node) × (api_Node) × Unit))) :=
  let t0 : Bool := (decide ((s.1 : Int) < ((List.length s.2.1.2.1) : Int)))
  bif t0 then
    bif (decide ((0 : Int) ≤ s.1) && decide ((s.1 : Int) < (List.length s.2.1.2.1 : Int))) then
      bif (decide ((0 : Int) ≤ s.1) && decide ((s.1 : Int) < (List.length s.2.2.1.2.1 : Int))) then
        let t1 : List UInt8 := (List.getD s.2.2.1.2.1 (Int.toNat s.1) [])
        let t2 : Bool := (!decide (((List.getD s.2.1.2.1 (Int.toNat s.1) []) : List UInt8) = t1))
        bif t2 then
          some (.inr (.inl (false, ())))
        else
          some (.inl ((IntKind.i64.wrap (s.1 + (1 : Int))), s.2.1, s.2.2.1, ()))
      else
        none
    else
      none
  else
    some (.inr (.inr (s.2.1, s.2.2.1, ())))
def ref10_Same_l0 (s : (Int) × (api_Node) × (api_Node) × Unit) : Option (((Bool) × Unit) ⊕ ((api_Node) × (api_Node) × Unit)) := loopO ref10_Same_b0 s
def ref10_Same_b1 (s : (Int) × (api_Node) × (api_Node) × Unit) : Option (((Int) × (api_Node) × (api_Node) × Unit) ⊕ (((Bool) × Unit) ⊕ ((api_Node) × (api_Node) × Unit))) :=
  let t0 : Bool := (decide ((s.1 : Int) < ((List.length s.2.1.2.2.1) : Int)))
  bif t0 then
    bif (decide ((0 : Int) ≤ s.1) && decide ((s.1 : Int) < (List.length s.2.1.2.2.1 : Int))) then
      let t1 : Int := (List.getD s.2.1.2.2.1 (Int.toNat s.1) (0 : Int))
      bif (decide ((0 : Int) ≤ s.1) && decide ((s.1 : Int) < (List.length s.2.2.1.2.2.1 : Int))) then
        let t2 : Int := (List.getD s.2.2.1.2.2.1 (Int.toNat s.1) (0 : Int))
        bif (!decide ((t1 : Int) = t2)) then
          some (.inr (.inl (false, ())))
        else
          some (.inl ((IntKind.i64.wrap (s.1 + (1 : Int))), s.2.1, s.2.2.1, ()))
      else
        none
    else
      none
  else
    some (.inr (.inr (s.2.1, s.2.2.1, ())))
def ref10_Same_l1 (s : (Int) × (api_Node) × (api_Node) × Unit) : Option (((Bool) × Unit) ⊕ ((api_Node) × (api_Node) × Unit)) := loopO ref10_Same_b1 s
def ref10_Same_b2 (s : (Int) × (api_Node) × (api_Node) × Unit) : Option (((Int) × (api_Node) × (api_Node) × Unit) ⊕ (((Bool) × Unit) ⊕ (Unit))) :=
  let t0 : Bool := (decide ((s.1 : Int) < ((List.length s.2.1.2.2.2.1) : Int)))
  bif t0 then
    bif (decide ((0 : Int) ≤ s.1) && decide ((s.1 : Int) < (List.length s.2.1.2.2.2.1 : Int))) then
      let t1 : api_Sum := (List.getD s.2.1.2.2.2.1 (Int.toNat s.1) (((0 : Int), ((0 : Int), ())), (((0 : Int), ((0 : Int), ())), ())))
      bif (decide ((0 : Int) ≤ s.1) && decide ((s.1 : Int) < (List.length s.2.2.1.2.2.2.1 : Int))) then
        let t2 : api_Sum := (List.getD s.2.2.1.2.2.2.1 (Int.toNat s.1) (((0 : Int), ((0 : Int), ())), (((0 : Int), ((0 : Int), ())), ())))
        let t3 : Bool := (!(Ty.eqb tapi_Sum t1 t2))
        bif t3 then
          some (.inr (.inl (false, ())))
        else
          some (.inl ((IntKind.i64.wrap (s.1 + (1 : Int))), s.2.1, s.2.2.1, ()))
      else
        none
    else
      none
  else
    some (.inr (.inr (())))
def ref10_Same_l2 (s : (Int) × (api_Node) × (api_Node) × Unit) : Option (((Bool) × Unit) ⊕ (Unit)) := loopO ref10_Same_b2 s
def ref10_Same_j0 (s : (Bool) × (api_Node) × (api_Node) × Unit) : Option ((Bool) × Unit) :=
  bif s.1 then
    some (false, ())
  else
    match ref10_Same_l0 ((0 : Int), s.2.1, s.2.2.1, ()) with
    | none => none
    | some (.inl z0) =>
      some (z0.1, ())
    | some (.inr z0) =>
      match ref10_Same_l1 ((0 : Int), z0.1, z0.2.1, ()) with
      | none => none
      | some (.inl z1) =>
        some (z1.1, ())
      | some (.inr z1) =>
        match ref10_Same_l2 ((0 : Int), z1.1, z1.2.1, ()) with
        | none => none
        | some (.inl z2) =>
          some (z2.1, ())
        | some (.inr z2) =>
          some (true, ())

def ref10_Same (s : (api_Node) × (api_Node) × Unit) : Option ((Bool) × Unit) :=
  match ref04_Same (s.1.1, s.2.1.1, ()) with
  | none => none
  | some r0 =>
    bif (!(!r0.1)) then
      match ref05_SameMsgs (s.1.2.2.2.2.1, s.2.1.2.2.2.2.1, ()) with
      | none => none
      | some r1 =>
        bif (!(!r1.1)) then
          let t2 : Bool := (!decide ((((List.length s.1.2.1) : Int) : Int) = ((List.length s.2.1.2.1) : Int)))
          bif (!t2) then
            let t3 : Bool := (!decide ((((List.length s.1.2.2.1) : Int) : Int) = ((List.length s.2.1.2.2.1) : Int)))
            bif (!t3) then
              let t4 : Bool := (!decide ((((List.length s.1.2.2.2.1) : Int) : Int) = ((List.length s.2.1.2.2.2.1) : Int)))
              ref10_Same_j0 (t4, s.1, s.2.1, ())
            else
              ref10_Same_j0 (true, s.1, s.2.1, ())
          else
            ref10_Same_j0 (true, s.1, s.2.1, ())
        else
          ref10_Same_j0 (true, s.1, s.2.1, ())
    else
      ref10_Same_j0 (true, s.1, s.2.1, ())
/-! downspout/downspoutlaw13.same -/
def law13_same_b0 (s : (Int) × (ref13_Split) × (ref13_Split) × Unit) : Option (((Int) × (ref13_Split) × (ref13_Split) × Unit) ⊕ (((Bool) × Unit) ⊕ (Unit))) :=
  let t0 : Bool := (decide ((s.1 : Int) < ((List.length s.2.1.1) : Int)))
  bif t0 then
    bif (decide ((0 : Int) ≤ s.1) && decide ((s.1 : Int) < (List.length s.2.1.1 : Int))) then
      let t1 : api_Node := (List.getD s.2.1.1 (Int.toNat s.1) ([], ([], ([], ([], ([], ()))))))
      bif (decide ((0 : Int) ≤ s.1) && decide ((s.1 : Int) < (List.length s.2.2.1.1 : Int))) then
        let t2 : api_Node := (List.getD s.2.2.1.1 (Int.toNat s.1) ([], ([], ([], ([], ([], ()))))))
        match ref10_Same (t1, t2, ()) with
        | none => none
        | some r3 =>
          bif (!r3.1) then
            some (.inr (.inl (false, ())))
          else
            some (.inl ((IntKind.i64.wrap (s.1 + (1 : Int))), s.2.1, s.2.2.1, ()))
      else
        none
    else
      none
  else
    some (.inr (.inr (())))
def law13_same_l0 (s : (Int) × (ref13_Split) × (ref13_Split) × Unit) : Option (((Bool) × Unit) ⊕ (Unit)) := loopO law13_same_b0 s
def law13_same (s : (ref13_Split) × (ref13_Split) × Unit) : Option ((Bool) × Unit) :=
  let t0 : Bool := (!decide ((((List.length s.1.1) : Int) : Int) = ((List.length s.2.1.1) : Int)))
  bif (!t0) then
    match law13_sameTexts (s.1.2.1, s.2.1.2.1, ()) with
    | none => none
    | some r1 =>
      bif (!(!r1.1)) then
        match ref05_SameMsgs (s.1.2.2.1, s.2.1.2.2.1, ()) with
        | none => none
        | some r2 =>
          bif (!r2.1) then
            some (false, ())
          else
            match law13_same_l0 ((0 : Int), s.1, s.2.1, ()) with
            | none => none
            | some (.inl z3) =>
              some (z3.1, ())
            | some (.inr z3) =>
              some (true, ())
      else
        some (false, ())
  else
    some (false, ())
/-! downspout/split.cut[int] -/
def split_cut_int_b0_j0 (s : (List (Int)) × (Int) × (Int) × (Int) × (Int) × (Int) × (List (List (Int))) × Unit) : Option (((List (Int)) × (Int) × (Int) × (Int) × (List (List (Int))) × Unit) ⊕ (((List (List (Int))) × Unit) ⊕ (Unit))) :=
  bif (decide ((0 : Int) ≤ (0 : Int)) && decide (((0 : Int) : Int) ≤ s.2.2.2.1) && decide ((s.2.2.2.1 : Int) ≤ (List.length s.1 : Int)) && decide ((s.2.2.2.1 : Int) = s.2.2.2.1)) then
    let t0 : List (Int) := (List.drop 0 (List.take (Int.toNat s.2.2.2.1) s.1))
    bif (decide ((0 : Int) ≤ s.2.2.2.1) && decide ((s.2.2.2.1 : Int) ≤ (List.length s.1 : Int)) && decide (((List.length s.1 : Int) : Int) ≤ (List.length s.1 : Int))) then
      let t1 : List (Int) := (List.drop (Int.toNat s.2.2.2.1) (List.take (Int.toNat (List.length s.1 : Int)) s.1))
      bif (decide ((0 : Int) ≤ s.2.2.1) && decide ((s.2.2.1 : Int) < (List.length s.2.2.2.2.2.2.1 : Int))) then
        let t2 : List (List (Int)) := (List.set s.2.2.2.2.2.2.1 (Int.toNat s.2.2.1) t0)
        let t3 : Int := (IntKind.i64.wrap (s.2.2.2.2.2.1 + (1 : Int)))
        some (.inl (t1, s.2.1, s.2.2.2.2.1, t3, t2, ()))
      else
        none
    else
      none
  else
    none

def split_cut_int_b0 (s : (List (Int)) × (Int) × (Int) × (Int) × (List (List (Int))) × Unit) : Option (((List (Int)) × (Int) × (Int) × (Int) × (List (List (Int))) × Unit) ⊕ (((List (List (Int))) × Unit) ⊕ (Unit))) :=
  bif (decide ((s.2.2.2.1 : Int) < s.2.2.1)) then
    bif (decide ((IntKind.i64.wrap (s.2.1 - s.2.2.2.1)) = (0 : Int))) then
      none
    else
      let t0 : Int := (IntKind.i64.wrap (Int.tdiv ((List.length s.1) : Int) (IntKind.i64.wrap (s.2.1 - s.2.2.2.1))))
      let t1 : Int := (IntKind.i64.wrap (t0 * (IntKind.i64.wrap (s.2.1 - s.2.2.2.1))))
      let t2 : Bool := (decide ((t1 : Int) < ((List.length s.1) : Int)))
      bif t2 then
        split_cut_int_b0_j0 (s.1, s.2.1, s.2.2.2.1, (IntKind.i64.wrap (t0 + (1 : Int))), s.2.2.1, s.2.2.2.1, s.2.2.2.2.1, ())
      else
        split_cut_int_b0_j0 (s.1, s.2.1, s.2.2.2.1, t0, s.2.2.1, s.2.2.2.1, s.2.2.2.2.1, ())
  else
    some (.inr (.inl (s.2.2.2.2.1, ())))
def split_cut_int_l0 (s : (List (Int)) × (Int) × (Int) × (Int) × (List (List (Int))) × Unit) : Option (((List (List (Int))) × Unit) ⊕ (Unit)) := loopO split_cut_int_b0 s
def split_cut_int_j0 (s : (List (Int)) × (Int) × (Bool) × Unit) : Option ((List (List (Int))) × Unit) :=
  bif s.2.2.1 then
    some ([], ())
  else
    let t0 : Int := (IntKind.i64.wrap (((List.length s.1) : Int) - (1 : Int)))
    bif (decide (s.2.1 = (0 : Int))) then
      none
    else
      let t1 : Int := (IntKind.i64.wrap ((IntKind.i64.wrap (Int.tdiv t0 s.2.1)) + (1 : Int)))
      bif (decide ((0 : Int) ≤ t1) && decide ((t1 : Int) ≤ t1) && decide (t1 * (24 : Int) ≤ (roomMax : Int))) then
        match split_cut_int_l0 (s.1, t1, t1, (0 : Int), (List.replicate (Int.toNat t1) []), ()) with
        | none => none
        | some (.inl z2) =>
          some (z2.1, ())
        | some (.inr z2) =>
          none
      else
        none

def split_cut_int (s : (List (Int)) × (Int) × Unit) : Option ((List (List (Int))) × Unit) :=
  bif (!(decide ((s.2.1 : Int) < (1 : Int)))) then
    let t0 : Bool := (decide ((((List.length s.1) : Int) : Int) = (0 : Int)))
    split_cut_int_j0 (s.1, s.2.1, t0, ())
  else
    split_cut_int_j0 (s.1, s.2.1, true, ())
/-! downspout/split.cut[downspout/api.Sum] -/
def split_cut_api_Sum_b0_j0 (s : (List (api_Sum)) × (Int) × (Int) × (Int) × (Int) × (Int) × (List (List (api_Sum))) × Unit) : Option (((List (api_Sum)) × (Int) × (Int) × (Int) × (List (List (api_Sum))) × Unit) ⊕ (((List (List (api_Sum))) × Unit) ⊕ (Unit))) :=
  bif (decide ((0 : Int) ≤ (0 : Int)) && decide (((0 : Int) : Int) ≤ s.2.2.2.1) && decide ((s.2.2.2.1 : Int) ≤ (List.length s.1 : Int)) && decide ((s.2.2.2.1 : Int) = s.2.2.2.1)) then
    let t0 : List (api_Sum) := (List.drop 0 (List.take (Int.toNat s.2.2.2.1) s.1))
    bif (decide ((0 : Int) ≤ s.2.2.2.1) && decide ((s.2.2.2.1 : Int) ≤ (List.length s.1 : Int)) && decide (((List.length s.1 : Int) : Int) ≤ (List.length s.1 : Int))) then
      let t1 : List (api_Sum) := (List.drop (Int.toNat s.2.2.2.1) (List.take (Int.toNat (List.length s.1 : Int)) s.1))
      bif (decide ((0 : Int) ≤ s.2.2.1) && decide ((s.2.2.1 : Int) < (List.length s.2.2.2.2.2.2.1 : Int))) then
        let t2 : List (List (api_Sum)) := (List.set s.2.2.2.2.2.2.1 (Int.toNat s.2.2.1) t0)
        let t3 : Int := (IntKind.i64.wrap (s.2.2.2.2.2.1 + (1 : Int)))
        some (.inl (t1, s.2.1, s.2.2.2.2.1, t3, t2, ()))
      else
        none
    else
      none
  else
    none

def split_cut_api_Sum_b0 (s : (List (api_Sum)) × (Int) × (Int) × (Int) × (List (List (api_Sum))) × Unit) : Option (((List (api_Sum)) × (Int) × (Int) × (Int) × (List (List (api_Sum))) × Unit) ⊕ (((List (List (api_Sum))) × Unit) ⊕ (Unit))) :=
  bif (decide ((s.2.2.2.1 : Int) < s.2.2.1)) then
    bif (decide ((IntKind.i64.wrap (s.2.1 - s.2.2.2.1)) = (0 : Int))) then
      none
    else
      let t0 : Int := (IntKind.i64.wrap (Int.tdiv ((List.length s.1) : Int) (IntKind.i64.wrap (s.2.1 - s.2.2.2.1))))
      let t1 : Int := (IntKind.i64.wrap (t0 * (IntKind.i64.wrap (s.2.1 - s.2.2.2.1))))
      let t2 : Bool := (decide ((t1 : Int) < ((List.length s.1) : Int)))
      bif t2 then
        split_cut_api_Sum_b0_j0 (s.1, s.2.1, s.2.2.2.1, (IntKind.i64.wrap (t0 + (1 : Int))), s.2.2.1, s.2.2.2.1, s.2.2.2.2.1, ())
      else
        split_cut_api_Sum_b0_j0 (s.1, s.2.1, s.2.2.2.1, t0, s.2.2.1, s.2.2.2.1, s.2.2.2.2.1, ())
  else
    some (.inr (.inl (s.2.2.2.2.1, ())))
def split_cut_api_Sum_l0 (s : (List (api_Sum)) × (Int) × (Int) × (Int) × (List (List (api_Sum))) × Unit) : Option (((List (List (api_Sum))) × Unit) ⊕ (Unit)) := loopO split_cut_api_Sum_b0 s
def split_cut_api_Sum_j0 (s : (List (api_Sum)) × (Int) × (Bool) × Unit) : Option ((List (List (api_Sum))) × Unit) :=
  bif s.2.2.1 then
    some ([], ())
  else
    let t0 : Int := (IntKind.i64.wrap (((List.length s.1) : Int) - (1 : Int)))
    bif (decide (s.2.1 = (0 : Int))) then
      none
    else
      let t1 : Int := (IntKind.i64.wrap ((IntKind.i64.wrap (Int.tdiv t0 s.2.1)) + (1 : Int)))
      bif (decide ((0 : Int) ≤ t1) && decide ((t1 : Int) ≤ t1) && decide (t1 * (24 : Int) ≤ (roomMax : Int))) then
        match split_cut_api_Sum_l0 (s.1, t1, t1, (0 : Int), (List.replicate (Int.toNat t1) []), ()) with
        | none => none
        | some (.inl z2) =>
          some (z2.1, ())
        | some (.inr z2) =>
          none
      else
        none

def split_cut_api_Sum (s : (List (api_Sum)) × (Int) × Unit) : Option ((List (List (api_Sum))) × Unit) :=
  bif (!(decide ((s.2.1 : Int) < (1 : Int)))) then
    let t0 : Bool := (decide ((((List.length s.1) : Int) : Int) = (0 : Int)))
    split_cut_api_Sum_j0 (s.1, s.2.1, t0, ())
  else
    split_cut_api_Sum_j0 (s.1, s.2.1, true, ())
/-! downspout/split.Inner -/
def split_Inner_b0_j0 (s : (List (List (Int))) × (List (List (api_Sum))) × (List (List UInt8)) × (Int) × (Int) × (Int) × (api_Node) × (List (api_Node)) × (List (List UInt8)) × Unit) : Option (((List (List (Int))) × (List (List (api_Sum))) × (List (List UInt8)) × (Int) × (Int) × (api_Node) × (List (api_Node)) × (List (List UInt8)) × Unit) ⊕ (((api_Node) × (List (api_Node)) × (List (List UInt8)) × Unit) ⊕ (Unit))) :=
  bif (decide ((0 : Int) ≤ s.2.2.2.1) && decide ((s.2.2.2.1 : Int) < (List.length s.1 : Int))) then
    let t0 : Int := ((List.length (List.getD s.1 (Int.toNat s.2.2.2.1) [])) : Int)
    bif (decide ((0 : Int) ≤ s.2.2.2.1) && decide ((s.2.2.2.1 : Int) < (List.length s.1 : Int))) then
      bif (decide ((0 : Int) ≤ s.2.2.2.1) && decide ((s.2.2.2.1 : Int) < (List.length s.2.1 : Int))) then
        let t1 : List (api_Sum) := (List.getD s.2.1 (Int.toNat s.2.2.2.1) [])
        bif (decide ((0 : Int) ≤ (0 : Int)) && decide (((0 : Int) : Int) ≤ (IntKind.i64.wrap (t0 - (1 : Int)))) && decide (((IntKind.i64.wrap (t0 - (1 : Int))) : Int) ≤ (List.length s.2.2.1 : Int)) && decide (((IntKind.i64.wrap (t0 - (1 : Int))) : Int) = (IntKind.i64.wrap (t0 - (1 : Int))))) then
          let t2 : List (List UInt8) := (List.drop 0 (List.take (Int.toNat (IntKind.i64.wrap (t0 - (1 : Int)))) s.2.2.1))
          bif (decide ((0 : Int) ≤ s.2.2.2.1) && decide ((s.2.2.2.1 : Int) < (List.length s.2.2.2.2.2.2.2.1 : Int))) then
            let t3 : List (api_Node) := (List.set s.2.2.2.2.2.2.2.1 (Int.toNat s.2.2.2.1) ([], (t2, ((List.getD s.1 (Int.toNat s.2.2.2.1) []), (t1, ([], ()))))))
            bif (decide ((0 : Int) ≤ (IntKind.i64.wrap (t0 - (1 : Int)))) && decide (((IntKind.i64.wrap (t0 - (1 : Int))) : Int) ≤ (List.length s.2.2.1 : Int)) && decide (((List.length s.2.2.1 : Int) : Int) ≤ (List.length s.2.2.1 : Int))) then
              let t4 : List (List UInt8) := (List.drop (Int.toNat (IntKind.i64.wrap (t0 - (1 : Int)))) (List.take (Int.toNat (List.length s.2.2.1 : Int)) s.2.2.1))
              let t5 : Int := (IntKind.i64.wrap (s.2.2.2.2.2.1 + (1 : Int)))
              some (.inl (s.1, s.2.1, t4, s.2.2.2.2.1, t5, s.2.2.2.2.2.2.1, t3, s.2.2.2.2.2.2.2.2.1, ()))
            else
              none
          else
            none
        else
          none
      else
        none
    else
      none
  else
    none

def split_Inner_b0 (s : (List (List (Int))) × (List (List (api_Sum))) × (List (List UInt8)) × (Int) × (Int) × (api_Node) × (List (api_Node)) × (List (List UInt8)) × Unit) : Option (((List (List (Int))) × (List (List (api_Sum))) × (List (List UInt8)) × (Int) × (Int) × (api_Node) × (List (api_Node)) × (List (List UInt8)) × Unit) ⊕ (((api_Node) × (List (api_Node)) × (List (List UInt8)) × Unit) ⊕ (Unit))) :=
  let t0 : Bool := (decide ((s.2.2.2.2.1 : Int) < s.2.2.2.1))
  bif t0 then
    let t1 : Bool := (decide ((s.2.2.2.2.1 : Int) > (0 : Int)))
    bif t1 then
      bif (decide (((0 : Int) : Int) < (List.length s.2.2.1 : Int))) then
        bif (decide ((List.length s.2.2.2.2.2.2.2.1 + List.length ([(List.getD s.2.2.1 0 [])] : List (List UInt8))) * 16 ≤ roomMax)) then
          let t2 : List (List UInt8) := (s.2.2.2.2.2.2.2.1 ++ ([(List.getD s.2.2.1 0 [])] : List (List UInt8)))
          bif (decide (((1 : Int) : Int) ≤ (List.length s.2.2.1 : Int)) && decide (((List.length s.2.2.1 : Int) : Int) ≤ (List.length s.2.2.1 : Int))) then
            let t3 : List (List UInt8) := (List.drop (Int.toNat (1 : Int)) (List.take (Int.toNat (List.length s.2.2.1 : Int)) s.2.2.1))
            split_Inner_b0_j0 (s.1, s.2.1, t3, s.2.2.2.2.1, s.2.2.2.1, s.2.2.2.2.1, s.2.2.2.2.2.1, s.2.2.2.2.2.2.1, t2, ())
          else
            none
        else
          none
      else
        none
    else
      split_Inner_b0_j0 (s.1, s.2.1, s.2.2.1, s.2.2.2.2.1, s.2.2.2.1, s.2.2.2.2.1, s.2.2.2.2.2.1, s.2.2.2.2.2.2.1, s.2.2.2.2.2.2.2.1, ())
  else
    some (.inr (.inl (s.2.2.2.2.2.1, s.2.2.2.2.2.2.1, s.2.2.2.2.2.2.2.1, ())))
def split_Inner_l0 (s : (List (List (Int))) × (List (List (api_Sum))) × (List (List UInt8)) × (Int) × (Int) × (api_Node) × (List (api_Node)) × (List (List UInt8)) × Unit) : Option (((api_Node) × (List (api_Node)) × (List (List UInt8)) × Unit) ⊕ (Unit)) := loopO split_Inner_b0 s
def split_Inner (s : (api_Node) × (api_Shape) × Unit) : Option (ref13_Split) :=
  match split_cut_int (s.1.2.2.1, s.2.1.2.1, ()) with
  | none => none
  | some r0 =>
    match split_cut_api_Sum (s.1.2.2.2.1, s.2.1.2.1, ()) with
    | none => none
    | some r1 =>
      bif (decide ((0 : Int) ≤ ((List.length r0.1) : Int)) && decide ((((List.length r0.1) : Int) : Int) ≤ ((List.length r0.1) : Int)) && decide (((List.length r0.1) : Int) * (120 : Int) ≤ (roomMax : Int))) then
        match split_Inner_l0 (r0.1, r1.1, s.1.2.1, ((List.length r0.1) : Int), (0 : Int), s.1, (List.replicate (Int.toNat ((List.length r0.1) : Int)) ([], ([], ([], ([], ([], ())))))), [], ()) with
        | none => none
        | some (.inl z2) =>
          some (z2.2.1, z2.2.2.1, z2.1.2.2.2.2.1, ())
        | some (.inr z2) =>
          none
      else
        none
/-! downspout/downspoutlaw13.inner -/
def law13_inner (s : (api_Node) × (api_Shape) × Unit) : Option ((ref13_Split) × Unit) :=
  match split_Inner (s.1, s.2.1, ()) with
  | none => none
  | some r0 =>
    some ((r0.1, (r0.2.1, (r0.2.2.1, ()))), ())
/-! downspout/downspoutlaw13.sanity -/
def law13_sanity_b0 (s : (Int) × (List (api_Pair)) × Unit) : Option (((Int) × (List (api_Pair)) × Unit) ⊕ (((List (api_Pair)) × Unit) ⊕ (Unit))) :=
  bif (decide ((s.1 : Int) < (7 : Int))) then
    let t0 : Int := (IntKind.u8.wrap (IntKind.i64.wrap ((97 : Int) + s.1)))
    bif (decide ((List.length s.2.1 + List.length ([((sOfBytes ([t0] : List (Int))), ([], ((0 : Int), ())))] : List (api_Pair))) * 40 ≤ roomMax)) then
      let t1 : List (api_Pair) := (s.2.1 ++ ([((sOfBytes ([t0] : List (Int))), ([], ((0 : Int), ())))] : List (api_Pair)))
      some (.inl ((IntKind.i64.wrap (s.1 + (1 : Int))), t1, ()))
    else
      none
  else
    some (.inr (.inl (s.2.1, ())))
def law13_sanity_l0 (s : (Int) × (List (api_Pair)) × Unit) : Option (((List (api_Pair)) × Unit) ⊕ (Unit)) := loopO law13_sanity_b0 s
def law13_sanity_j1 (s : (Bool) × (List (api_Pair)) × (List (api_Pair)) × (List (api_Msg)) × (List (List UInt8)) × (List (Int)) × (List (api_Sum)) × (List (api_Msg)) × (List (api_Node)) × (List (List UInt8)) × (List (api_Node)) × (List (List UInt8)) × Unit) : Option ((Bool) × Unit) :=
  bif s.1 then
    bif (decide (((3 : Int) : Int) ≤ (List.length s.2.1 : Int))) then
      let t0 : List (api_Pair) := (List.drop 0 (List.take (Int.toNat (3 : Int)) s.2.1))
      match law13_leaf ((t0, ([], ([], ([], ([], ()))))), ((2 : Int), ((2 : Int), ((1 : Int), ()))), ()) with
      | none => none
      | some r1 =>
        match law13_same (r1.1, (s.2.2.2.2.2.2.2.2.2.2.1, (s.2.2.2.2.2.2.2.2.2.2.2.1, (s.2.2.2.1, ()))), ()) with
        | none => none
        | some r2 =>
          bif r2.1 then
            match law13_inner ((s.2.2.1, (s.2.2.2.2.1, (s.2.2.2.2.2.1, (s.2.2.2.2.2.2.1, (s.2.2.2.2.2.2.2.1, ()))))), ((2 : Int), ((2 : Int), ((1 : Int), ()))), ()) with
            | none => none
            | some r3 =>
              match law13_same (r3.1, (s.2.2.2.2.2.2.2.2.1, (s.2.2.2.2.2.2.2.2.2.1, (s.2.2.2.2.2.2.2.1, ()))), ()) with
              | none => none
              | some r4 =>
                bif r4.1 then
                  match law13_leaf (([], ([], ([], ([], ([], ()))))), ((2 : Int), ((2 : Int), ((1 : Int), ()))), ()) with
                  | none => none
                  | some r5 =>
                    match law13_same (r5.1, (([([], ([], ([], ([], ([], ())))))] : List (api_Node)), ([], ([], ()))), ()) with
                    | none => none
                    | some r6 =>
                      some (r6.1, ())
                else
                  some (false, ())
          else
            some (false, ())
    else
      none
  else
    some (false, ())
def law13_sanity_j0 (s : (List (List (api_Pair))) × (List (List (api_Pair))) × (Bool) × (List (api_Pair)) × (List (api_Pair)) × (List (api_Msg)) × (List (List UInt8)) × (List (Int)) × (List (api_Sum)) × (List (api_Msg)) × (List (api_Node)) × (List (List UInt8)) × (List (api_Node)) × (List (List UInt8)) × Unit) : Option ((Bool) × Unit) :=
  bif s.2.2.1 then
    some (false, ())
  else
    bif (decide (((0 : Int) : Int) < (List.length s.1 : Int))) then
      let t0 : Int := ((List.length (List.getD s.1 0 [])) : Int)
      bif (decide ((t0 : Int) = (3 : Int))) then
        bif (decide (((1 : Int) : Int) < (List.length s.1 : Int))) then
          let t1 : Int := ((List.length (List.getD s.1 (Int.toNat (1 : Int)) [])) : Int)
          bif (decide ((t1 : Int) = (2 : Int))) then
            bif (decide (((2 : Int) : Int) < (List.length s.1 : Int))) then
              let t2 : Int := ((List.length (List.getD s.1 (Int.toNat (2 : Int)) [])) : Int)
              bif (decide ((t2 : Int) = (2 : Int))) then
                bif (decide (((0 : Int) : Int) < (List.length s.2.1 : Int))) then
                  let t3 : Int := ((List.length (List.getD s.2.1 0 [])) : Int)
                  bif (decide ((t3 : Int) = (3 : Int))) then
                    bif (decide (((1 : Int) : Int) < (List.length s.2.1 : Int))) then
                      let t4 : List (api_Pair) := (List.getD s.2.1 (Int.toNat (1 : Int)) [])
                      let t5 : Bool := (decide ((((List.length t4) : Int) : Int) = (3 : Int)))
                      bif t5 then
                        match split_Pieces ([], (3 : Int), ()) with
                        | none => none
                        | some r6 =>
                          let t7 : Bool := (decide ((((List.length r6.1) : Int) : Int) = (0 : Int)))
                          bif t7 then
                            match split_Pieces (s.2.2.2.1, (0 : Int), ()) with
                            | none => none
                            | some r8 =>
                              let t9 : Bool := (decide ((((List.length r8.1) : Int) : Int) = (0 : Int)))
                              law13_sanity_j1 (t9, s.2.2.2.1, s.2.2.2.2.1, s.2.2.2.2.2.1, s.2.2.2.2.2.2.1, s.2.2.2.2.2.2.2.1, s.2.2.2.2.2.2.2.2.1, s.2.2.2.2.2.2.2.2.2.1, s.2.2.2.2.2.2.2.2.2.2.1, s.2.2.2.2.2.2.2.2.2.2.2.1, s.2.2.2.2.2.2.2.2.2.2.2.2.1, s.2.2.2.2.2.2.2.2.2.2.2.2.2.1, ())
                          else
                            law13_sanity_j1 (false, s.2.2.2.1, s.2.2.2.2.1, s.2.2.2.2.2.1, s.2.2.2.2.2.2.1, s.2.2.2.2.2.2.2.1, s.2.2.2.2.2.2.2.2.1, s.2.2.2.2.2.2.2.2.2.1, s.2.2.2.2.2.2.2.2.2.2.1, s.2.2.2.2.2.2.2.2.2.2.2.1, s.2.2.2.2.2.2.2.2.2.2.2.2.1, s.2.2.2.2.2.2.2.2.2.2.2.2.2.1, ())
                      else
                        law13_sanity_j1 (false, s.2.2.2.1, s.2.2.2.2.1, s.2.2.2.2.2.1, s.2.2.2.2.2.2.1, s.2.2.2.2.2.2.2.1, s.2.2.2.2.2.2.2.2.1, s.2.2.2.2.2.2.2.2.2.1, s.2.2.2.2.2.2.2.2.2.2.1, s.2.2.2.2.2.2.2.2.2.2.2.1, s.2.2.2.2.2.2.2.2.2.2.2.2.1, s.2.2.2.2.2.2.2.2.2.2.2.2.2.1, ())
                    else
                      none
                  else
                    law13_sanity_j1 (false, s.2.2.2.1, s.2.2.2.2.1, s.2.2.2.2.2.1, s.2.2.2.2.2.2.1, s.2.2.2.2.2.2.2.1, s.2.2.2.2.2.2.2.2.1, s.2.2.2.2.2.2.2.2.2.1, s.2.2.2.2.2.2.2.2.2.2.1, s.2.2.2.2.2.2.2.2.2.2.2.1, s.2.2.2.2.2.2.2.2.2.2.2.2.1, s.2.2.2.2.2.2.2.2.2.2.2.2.2.1, ())
                else
                  none
              else
                law13_sanity_j1 (false, s.2.2.2.1, s.2.2.2.2.1, s.2.2.2.2.2.1, s.2.2.2.2.2.2.1, s.2.2.2.2.2.2.2.1, s.2.2.2.2.2.2.2.2.1, s.2.2.2.2.2.2.2.2.2.1, s.2.2.2.2.2.2.2.2.2.2.1, s.2.2.2.2.2.2.2.2.2.2.2.1, s.2.2.2.2.2.2.2.2.2.2.2.2.1, s.2.2.2.2.2.2.2.2.2.2.2.2.2.1, ())
            else
              none
          else
            law13_sanity_j1 (false, s.2.2.2.1, s.2.2.2.2.1, s.2.2.2.2.2.1, s.2.2.2.2.2.2.1, s.2.2.2.2.2.2.2.1, s.2.2.2.2.2.2.2.2.1, s.2.2.2.2.2.2.2.2.2.1, s.2.2.2.2.2.2.2.2.2.2.1, s.2.2.2.2.2.2.2.2.2.2.2.1, s.2.2.2.2.2.2.2.2.2.2.2.2.1, s.2.2.2.2.2.2.2.2.2.2.2.2.2.1, ())
        else
          none
      else
        law13_sanity_j1 (false, s.2.2.2.1, s.2.2.2.2.1, s.2.2.2.2.2.1, s.2.2.2.2.2.2.1, s.2.2.2.2.2.2.2.1, s.2.2.2.2.2.2.2.2.1, s.2.2.2.2.2.2.2.2.2.1, s.2.2.2.2.2.2.2.2.2.2.1, s.2.2.2.2.2.2.2.2.2.2.2.1, s.2.2.2.2.2.2.2.2.2.2.2.2.1, s.2.2.2.2.2.2.2.2.2.2.2.2.2.1, ())
    else
      none

def law13_sanity (s : Unit) : Option ((Bool) × Unit) :=
  match law13_sanity_l0 ((0 : Int), ([] : List (api_Pair)), ()) with
  | none => none
  | some (.inl z0) =>
    match split_Pieces (z0.1, (3 : Int), ()) with
    | none => none
    | some r1 =>
      bif (decide (((6 : Int) : Int) ≤ (List.length z0.1 : Int))) then
        let t2 : List (api_Pair) := (List.drop 0 (List.take (Int.toNat (6 : Int)) z0.1))
        match split_Pieces (t2, (3 : Int), ()) with
        | none => none
        | some r3 =>
          bif (decide ((0 : Int) ≤ (5 : Int)) && decide (((5 : Int) : Int) ≤ (5 : Int)) && decide ((5 : Int) * (32 : Int) ≤ (roomMax : Int))) then
            bif (decide ((0 : Int) ≤ (2 : Int)) && decide (((2 : Int) : Int) ≤ (2 : Int)) && decide ((2 : Int) * (32 : Int) ≤ (roomMax : Int))) then
              bif (decide (((1 : Int) : Int) ≤ (List.length (List.replicate (Int.toNat (2 : Int)) (((0 : Int), ((0 : Int), ())), (((0 : Int), ((0 : Int), ())), ()))) : Int))) then
                let t4 : List (api_Sum) := (List.drop 0 (List.take (Int.toNat (1 : Int)) (List.replicate (Int.toNat (2 : Int)) (((0 : Int), ((0 : Int), ())), (((0 : Int), ((0 : Int), ())), ())))))
                bif (decide (((2 : Int) : Int) ≤ (List.length z0.1 : Int))) then
                  let t5 : List (api_Pair) := (List.drop 0 (List.take (Int.toNat (2 : Int)) z0.1))
                  bif (decide (((3 : Int) : Int) ≤ (List.length z0.1 : Int))) then
                    let t6 : List (api_Pair) := (List.drop (Int.toNat (2 : Int)) (List.take (Int.toNat (3 : Int)) z0.1))
                    let t7 : Bool := (!decide ((((List.length r1.1) : Int) : Int) = (3 : Int)))
                    bif (!t7) then
                      let t8 : Bool := (!decide ((((List.length r3.1) : Int) : Int) = (2 : Int)))
                      law13_sanity_j0 (r1.1, r3.1, t8, z0.1, [], [], ([([98] : List UInt8), ([99] : List UInt8), ([100] : List UInt8), ([101] : List UInt8)] : List (List UInt8)), ([(1 : Int), (2 : Int), (3 : Int), (4 : Int), (5 : Int)] : List (Int)), (List.replicate (Int.toNat (5 : Int)) (((0 : Int), ((0 : Int), ())), (((0 : Int), ((0 : Int), ())), ()))), ([((2 : Int), (([107] : List UInt8), ([], (([], ([], ())), ([], ([], ((0 : Int), ())))))))] : List (api_Msg)), ([([], (([([98] : List UInt8)] : List (List UInt8)), (([(1 : Int), (2 : Int)] : List (Int)), ((List.replicate (Int.toNat (2 : Int)) (((0 : Int), ((0 : Int), ())), (((0 : Int), ((0 : Int), ())), ()))), ([], ()))))), ([], (([([100] : List UInt8)] : List (List UInt8)), (([(3 : Int), (4 : Int)] : List (Int)), ((List.replicate (Int.toNat (2 : Int)) (((0 : Int), ((0 : Int), ())), (((0 : Int), ((0 : Int), ())), ()))), ([], ()))))), ([], ([], (([(5 : Int)] : List (Int)), (t4, ([], ())))))] : List (api_Node)), ([([99] : List UInt8), ([101] : List UInt8)] : List (List UInt8)), ([(t5, ([], ([], ([], ([], ()))))), (t6, ([], ([], ([], ([], ())))))] : List (api_Node)), ([([99] : List UInt8)] : List (List UInt8)), ())
                    else
                      law13_sanity_j0 (r1.1, r3.1, true, z0.1, [], [], ([([98] : List UInt8), ([99] : List UInt8), ([100] : List UInt8), ([101] : List UInt8)] : List (List UInt8)), ([(1 : Int), (2 : Int), (3 : Int), (4 : Int), (5 : Int)] : List (Int)), (List.replicate (Int.toNat (5 : Int)) (((0 : Int), ((0 : Int), ())), (((0 : Int), ((0 : Int), ())), ()))), ([((2 : Int), (([107] : List UInt8), ([], (([], ([], ())), ([], ([], ((0 : Int), ())))))))] : List (api_Msg)), ([([], (([([98] : List UInt8)] : List (List UInt8)), (([(1 : Int), (2 : Int)] : List (Int)), ((List.replicate (Int.toNat (2 : Int)) (((0 : Int), ((0 : Int), ())), (((0 : Int), ((0 : Int), ())), ()))), ([], ()))))), ([], (([([100] : List UInt8)] : List (List UInt8)), (([(3 : Int), (4 : Int)] : List (Int)), ((List.replicate (Int.toNat (2 : Int)) (((0 : Int), ((0 : Int), ())), (((0 : Int), ((0 : Int), ())), ()))), ([], ()))))), ([], ([], (([(5 : Int)] : List (Int)), (t4, ([], ())))))] : List (api_Node)), ([([99] : List UInt8), ([101] : List UInt8)] : List (List UInt8)), ([(t5, ([], ([], ([], ([], ()))))), (t6, ([], ([], ([], ([], ())))))] : List (api_Node)), ([([99] : List UInt8)] : List (List UInt8)), ())
                  else
                    none
                else
                  none
              else
                none
            else
              none
          else
            none
      else
        none
  | some (.inr z0) =>
    none
/-! downspout/downspoutref04.Key -/
def ref04_Key (s : (Int) × Unit) : Option ((List UInt8) × Unit) :=
  let t0 : Bool := (decide (((Int.tmod s.1 (24 : Int)) : Int) < (20 : Int)))
  bif t0 then
    let t1 : Int := (IntKind.u8.wrap (Int.tdiv (Int.tmod s.1 (24 : Int)) (5 : Int)))
    bif (decide ((0 : Int) ≤ t1) && decide ((t1 : Int) < (List.length ([([97, 47] : List UInt8), ([98, 47] : List UInt8), ([97, 47, 98, 47] : List UInt8), ([99, 47] : List UInt8)] : List (List UInt8)) : Int))) then
      let t2 : List UInt8 := (List.getD ([([97, 47] : List UInt8), ([98, 47] : List UInt8), ([97, 47, 98, 47] : List UInt8), ([99, 47] : List UInt8)] : List (List UInt8)) (Int.toNat t1) [])
      let t3 : Int := (Int.tmod (Int.tmod s.1 (24 : Int)) (5 : Int))
      bif (decide ((0 : Int) ≤ t3) && decide ((t3 : Int) < (List.length ([([1] : List UInt8), ([2, 0, 0] : List UInt8), ([2, 0, 1] : List UInt8), ([2, 0, 2] : List UInt8), ([3, 120] : List UInt8)] : List (List UInt8)) : Int))) then
        let t4 : List UInt8 := (List.getD ([([1] : List UInt8), ([2, 0, 0] : List UInt8), ([2, 0, 1] : List UInt8), ([2, 0, 2] : List UInt8), ([3, 120] : List UInt8)] : List (List UInt8)) (Int.toNat t3) [])
        bif (decide (List.length t2 + List.length t4 ≤ roomMax)) then
          some ((t2 ++ t4), ())
        else
          none
      else
        none
    else
      none
  else
    let t1 : Int := (IntKind.u8.wrap ((Int.tmod s.1 (24 : Int)) - (20 : Int)))
    bif (decide ((0 : Int) ≤ t1) && decide ((t1 : Int) < (List.length ([([1] : List UInt8), ([5, 48, 48, 48, 48, 48, 48, 48, 49, 47, 1] : List UInt8), ([6, 97, 47, 1] : List UInt8), ([97, 47, 98, 47, 99, 47, 1] : List UInt8)] : List (List UInt8)) : Int))) then
      let t2 : List UInt8 := (List.getD ([([1] : List UInt8), ([5, 48, 48, 48, 48, 48, 48, 48, 49, 47, 1] : List UInt8), ([6, 97, 47, 1] : List UInt8), ([97, 47, 98, 47, 99, 47, 1] : List UInt8)] : List (List UInt8)) (Int.toNat t1) [])
      some (t2, ())
    else
      none
/-! downspout/downspoutref04.Pair -/
def ref04_Pair (s : (api_Shape) × Unit) : Option ((api_Pair) × Unit) :=
  match ref04_Key (s.1.1, ()) with
  | none => none
  | some r0 =>
    bif (decide ((0 : Int) ≤ (Int.tmod s.1.2.1 (4 : Int))) && decide (((Int.tmod s.1.2.1 (4 : Int)) : Int) < (List.length ([([] : List UInt8), ([118] : List UInt8), ([119, 120] : List UInt8), ([120, 121, 122] : List UInt8)] : List (List UInt8)) : Int))) then
      let t1 : List UInt8 := (List.getD ([([] : List UInt8), ([118] : List UInt8), ([119, 120] : List UInt8), ([120, 121, 122] : List UInt8)] : List (List UInt8)) (Int.toNat (Int.tmod s.1.2.1 (4 : Int))) [])
      let t2 : Int := (IntKind.i64.wrap (Int.tmod s.1.2.2.1 (4 : Int)))
      some ((r0.1, (t1, (t2, ()))), ())
    else
      none
/-! downspout/downspoutref04.Put -/
def ref04_Put_b0_j0 (s : (List (api_Pair)) × (Bool) × (Int) × (api_Pair) × (List (api_Pair)) × Unit) : Option (((List (api_Pair)) × (Bool) × (Int) × (api_Pair) × (List (api_Pair)) × Unit) ⊕ (((Bool) × (api_Pair) × (List (api_Pair)) × Unit) ⊕ (Unit))) :=
  bif (decide ((0 : Int) ≤ s.2.2.1) && decide ((s.2.2.1 : Int) < (List.length s.1 : Int))) then
    let t0 : api_Pair := (List.getD s.1 (Int.toNat s.2.2.1) ([], ([], ((0 : Int), ()))))
    let t1 : Bool := (!decide ((t0.1 : List UInt8) = s.2.2.2.1.1))
    bif t1 then
      bif (decide ((0 : Int) ≤ s.2.2.1) && decide ((s.2.2.1 : Int) < (List.length s.1 : Int))) then
        let t2 : api_Pair := (List.getD s.1 (Int.toNat s.2.2.1) ([], ([], ((0 : Int), ()))))
        bif (decide ((List.length s.2.2.2.2.1 + List.length ([t2] : List (api_Pair))) * 40 ≤ roomMax)) then
          let t3 : List (api_Pair) := (s.2.2.2.2.1 ++ ([t2] : List (api_Pair)))
          some (.inl (s.1, s.2.1, (IntKind.i64.wrap (s.2.2.1 + (1 : Int))), s.2.2.2.1, t3, ()))
        else
          none
      else
        none
    else
      some (.inl (s.1, s.2.1, (IntKind.i64.wrap (s.2.2.1 + (1 : Int))), s.2.2.2.1, s.2.2.2.2.1, ()))
  else
    none
def ref04_Put_b0_j1 (s : (List (api_Pair)) × (Bool) × (Int) × (Bool) × (api_Pair) × (List (api_Pair)) × Unit) : Option (((List (api_Pair)) × (Bool) × (Int) × (api_Pair) × (List (api_Pair)) × Unit) ⊕ (((Bool) × (api_Pair) × (List (api_Pair)) × Unit) ⊕ (Unit))) :=
  bif s.2.2.2.1 then
    bif (decide ((List.length s.2.2.2.2.2.1 + List.length ([s.2.2.2.2.1] : List (api_Pair))) * 40 ≤ roomMax)) then
      let t0 : List (api_Pair) := (s.2.2.2.2.2.1 ++ ([s.2.2.2.2.1] : List (api_Pair)))
      ref04_Put_b0_j0 (s.1, true, s.2.2.1, s.2.2.2.2.1, t0, ())
    else
      none
  else
    ref04_Put_b0_j0 (s.1, s.2.1, s.2.2.1, s.2.2.2.2.1, s.2.2.2.2.2.1, ())

def ref04_Put_b0 (s : (List (api_Pair)) × (Bool) × (Int) × (api_Pair) × (List (api_Pair)) × Unit) : Option (((List (api_Pair)) × (Bool) × (Int) × (api_Pair) × (List (api_Pair)) × Unit) ⊕ (((Bool) × (api_Pair) × (List (api_Pair)) × Unit) ⊕ (Unit))) :=
  let t0 : Bool := (decide ((s.2.2.1 : Int) < ((List.length s.1) : Int)))
  bif t0 then
    bif (!s.2.1) then
      bif (decide ((0 : Int) ≤ s.2.2.1) && decide ((s.2.2.1 : Int) < (List.length s.1 : Int))) then
        let t1 : api_Pair := (List.getD s.1 (Int.toNat s.2.2.1) ([], ([], ((0 : Int), ()))))
        ref04_Put_b0_j1 (s.1, s.2.1, s.2.2.1, (!(Op.bytesLess t1.1 s.2.2.2.1.1)), s.2.2.2.1, s.2.2.2.2.1, ())
      else
        none
    else
      ref04_Put_b0_j1 (s.1, s.2.1, s.2.2.1, false, s.2.2.2.1, s.2.2.2.2.1, ())
  else
    some (.inr (.inl (s.2.1, s.2.2.2.1, s.2.2.2.2.1, ())))
def ref04_Put_l0 (s : (List (api_Pair)) × (Bool) × (Int) × (api_Pair) × (List (api_Pair)) × Unit) : Option (((Bool) × (api_Pair) × (List (api_Pair)) × Unit) ⊕ (Unit)) := loopO ref04_Put_b0 s
def ref04_Put (s : (List (api_Pair)) × (api_Pair) × Unit) : Option ((List (api_Pair)) × Unit) :=
  match ref04_Put_l0 (s.1, false, (0 : Int), s.2.1, ([] : List (api_Pair)), ()) with
  | none => none
  | some (.inl z0) =>
    bif (!z0.1) then
      bif (decide ((List.length z0.2.2.1 + List.length ([z0.2.1] : List (api_Pair))) * 40 ≤ roomMax)) then
        let t1 : List (api_Pair) := (z0.2.2.1 ++ ([z0.2.1] : List (api_Pair)))
        some (t1, ())
      else
        none
    else
      some (z0.2.2.1, ())
  | some (.inr z0) =>
    none
/-! downspout/downspoutref04.Made -/
def ref04_Made_b0_j0 (s : (List (api_Shape)) × (List (api_Pair)) × (Int) × (Bool) × Unit) : Option (((List (api_Shape)) × (List (api_Pair)) × (Int) × Unit) ⊕ (((List (api_Pair)) × Unit) ⊕ (Unit))) :=
  bif s.2.2.2.1 then
    bif (decide ((0 : Int) ≤ s.2.2.1) && decide ((s.2.2.1 : Int) < (List.length s.1 : Int))) then
      let t0 : api_Shape := (List.getD s.1 (Int.toNat s.2.2.1) ((0 : Int), ((0 : Int), ((0 : Int), ()))))
      match ref04_Pair (t0, ()) with
      | none => none
      | some r1 =>
        match ref04_Put (s.2.1, r1.1, ()) with
        | none => none
        | some r2 =>
          some (.inl (s.1, r2.1, (IntKind.i64.wrap (s.2.2.1 + (1 : Int))), ()))
    else
      none
  else
    some (.inr (.inl (s.2.1, ())))

def ref04_Made_b0 (s : (List (api_Shape)) × (List (api_Pair)) × (Int) × Unit) : Option (((List (api_Shape)) × (List (api_Pair)) × (Int) × Unit) ⊕ (((List (api_Pair)) × Unit) ⊕ (Unit))) :=
  let t0 : Bool := (decide ((s.2.2.1 : Int) < ((List.length s.1) : Int)))
  bif t0 then
    ref04_Made_b0_j0 (s.1, s.2.1, s.2.2.1, (decide ((s.2.2.1 : Int) < (40 : Int))), ())
  else
    ref04_Made_b0_j0 (s.1, s.2.1, s.2.2.1, false, ())
def ref04_Made_l0 (s : (List (api_Shape)) × (List (api_Pair)) × (Int) × Unit) : Option (((List (api_Pair)) × Unit) ⊕ (Unit)) := loopO ref04_Made_b0 s
def ref04_Made (s : (List (api_Shape)) × Unit) : Option ((List (api_Pair)) × Unit) :=
  match ref04_Made_l0 (s.1, ([] : List (api_Pair)), (0 : Int), ()) with
  | none => none
  | some (.inl z0) =>
    some (z0.1, ())
  | some (.inr z0) =>
    none
/-! downspout/downspoutlaw13.SplitPieces -/
def law13_SplitPieces_b0_j0 (s : (Bool) × (List (api_Pair)) × (Int) × (List (List (api_Pair))) × (Int) × (List (api_Pair)) × Unit) : Option (((Bool) × (List (api_Pair)) × (Int) × (List (List (api_Pair))) × (Int) × (List (api_Pair)) × Unit) ⊕ (((Bool) × Unit) ⊕ ((Bool) × (List (api_Pair)) × (List (api_Pair)) × Unit))) :=
  bif (decide ((0 : Int) ≤ s.2.2.2.2.1) && decide ((s.2.2.2.2.1 : Int) < (List.length s.2.2.2.1 : Int))) then
    let t0 : List (api_Pair) := (List.getD s.2.2.2.1 (Int.toNat s.2.2.2.2.1) [])
    bif (decide ((List.length s.2.2.2.2.2.1 + List.length t0) * 40 ≤ roomMax)) then
      let t1 : Int := (IntKind.i64.wrap (s.2.2.2.2.1 + (1 : Int)))
      some (.inl (s.1, s.2.1, s.2.2.1, s.2.2.2.1, t1, (s.2.2.2.2.2.1 ++ t0), ()))
    else
      none
  else
    none

def law13_SplitPieces_b0 (s : (Bool) × (List (api_Pair)) × (Int) × (List (List (api_Pair))) × (Int) × (List (api_Pair)) × Unit) : Option (((Bool) × (List (api_Pair)) × (Int) × (List (List (api_Pair))) × (Int) × (List (api_Pair)) × Unit) ⊕ (((Bool) × Unit) ⊕ ((Bool) × (List (api_Pair)) × (List (api_Pair)) × Unit))) :=
  let t0 : Bool := (decide ((s.2.2.2.2.1 : Int) < ((List.length s.2.2.2.1) : Int)))
  bif t0 then
    bif (decide ((0 : Int) ≤ s.2.2.2.2.1) && decide ((s.2.2.2.2.1 : Int) < (List.length s.2.2.2.1 : Int))) then
      let t1 : List (api_Pair) := (List.getD s.2.2.2.1 (Int.toNat s.2.2.2.2.1) [])
      let t2 : Bool := (decide ((((List.length t1) : Int) : Int) = (0 : Int)))
      bif (!t2) then
        bif (decide ((0 : Int) ≤ s.2.2.2.2.1) && decide ((s.2.2.2.2.1 : Int) < (List.length s.2.2.2.1 : Int))) then
          let t3 : List (api_Pair) := (List.getD s.2.2.2.1 (Int.toNat s.2.2.2.2.1) [])
          let t4 : Bool := (decide ((((List.length t3) : Int) : Int) > s.2.2.1))
          bif (!t4) then
            bif (decide ((0 : Int) ≤ s.2.2.2.2.1) && decide ((s.2.2.2.2.1 : Int) < (List.length s.2.2.2.1 : Int))) then
              let t5 : List (api_Pair) := (List.getD s.2.2.2.1 (Int.toNat s.2.2.2.2.1) [])
              let t6 : Int := (IntKind.i64.wrap (((List.length s.2.2.2.1) : Int) - (1 : Int)))
              bif (decide ((0 : Int) ≤ t6) && decide ((t6 : Int) < (List.length s.2.2.2.1 : Int))) then
                let t7 : Int := ((List.length (List.getD s.2.2.2.1 (Int.toNat t6) [])) : Int)
                let t8 : Int := (IntKind.i64.wrap (((List.length t5) : Int) - t7))
                bif (!(decide ((t8 : Int) > (1 : Int)))) then
                  let t9 : Bool := (decide ((s.2.2.2.2.1 : Int) > (0 : Int)))
                  bif t9 then
                    bif (decide ((0 : Int) ≤ s.2.2.2.2.1) && decide ((s.2.2.2.2.1 : Int) < (List.length s.2.2.2.1 : Int))) then
                      let t10 : List (api_Pair) := (List.getD s.2.2.2.1 (Int.toNat s.2.2.2.2.1) [])
                      let t11 : Int := (IntKind.i64.wrap (s.2.2.2.2.1 - (1 : Int)))
                      bif (decide ((0 : Int) ≤ t11) && decide ((t11 : Int) < (List.length s.2.2.2.1 : Int))) then
                        let t12 : Int := ((List.length (List.getD s.2.2.2.1 (Int.toNat t11) [])) : Int)
                        let t13 : Bool := (decide ((((List.length t10) : Int) : Int) > t12))
                        bif t13 then
                          some (.inr (.inl (false, ())))
                        else
                          law13_SplitPieces_b0_j0 (s.1, s.2.1, s.2.2.1, s.2.2.2.1, s.2.2.2.2.1, s.2.2.2.2.2.1, ())
                      else
                        none
                    else
                      none
                  else
                    law13_SplitPieces_b0_j0 (s.1, s.2.1, s.2.2.1, s.2.2.2.1, s.2.2.2.2.1, s.2.2.2.2.2.1, ())
                else
                  some (.inr (.inl (false, ())))
              else
                none
            else
              none
          else
            some (.inr (.inl (false, ())))
        else
          none
      else
        some (.inr (.inl (false, ())))
    else
      none
  else
    some (.inr (.inr (s.1, s.2.1, s.2.2.2.2.2.1, ())))
def law13_SplitPieces_l0 (s : (Bool) × (List (api_Pair)) × (Int) × (List (List (api_Pair))) × (Int) × (List (api_Pair)) × Unit) : Option (((Bool) × Unit) ⊕ ((Bool) × (List (api_Pair)) × (List (api_Pair)) × Unit)) := loopO law13_SplitPieces_b0 s
def law13_SplitPieces_j0 (s : (Bool) × (List (api_Pair)) × (Int) × (List (List (api_Pair))) × (List (api_Pair)) × Unit) : Option ((Bool) × Unit) :=
  match law13_SplitPieces_l0 (s.1, s.2.1, s.2.2.1, s.2.2.2.1, (0 : Int), s.2.2.2.2.1, ()) with
  | none => none
  | some (.inl z0) =>
    some (z0.1, ())
  | some (.inr z0) =>
    match ref04_Same (z0.2.2.1, z0.2.1, ()) with
    | none => none
    | some r1 =>
      bif r1.1 then
        some (z0.1, ())
      else
        some (false, ())

def law13_SplitPieces (s : (List (api_Shape)) × (Int) × Unit) : Option ((Bool) × Unit) :=
  match law13_sanity (()) with
  | none => none
  | some r0 =>
    match ref04_Made (s.1, ()) with
    | none => none
    | some r1 =>
      let t2 : Int := (Int.tmod (IntKind.i64.wrap s.2.1) (30 : Int))
      match split_Pieces (r1.1, (IntKind.i64.wrap ((1 : Int) + t2)), ()) with
      | none => none
      | some r3 =>
        let t4 : Bool := (decide ((((List.length r3.1) : Int) : Int) > ((List.length r1.1) : Int)))
        bif (!t4) then
          let t5 : Int := (IntKind.i64.wrap (((List.length r3.1) : Int) - (1 : Int)))
          let t6 : Int := (IntKind.i64.wrap (t5 * (IntKind.i64.wrap ((1 : Int) + t2))))
          let t7 : Bool := (decide ((t6 : Int) ≥ ((List.length r1.1) : Int)))
          bif t7 then
            let t8 : Bool := (decide ((((List.length r1.1) : Int) : Int) > (0 : Int)))
            bif t8 then
              some (false, ())
            else
              law13_SplitPieces_j0 (r0.1, r1.1, (IntKind.i64.wrap ((1 : Int) + t2)), r3.1, ([] : List (api_Pair)), ())
          else
            law13_SplitPieces_j0 (r0.1, r1.1, (IntKind.i64.wrap ((1 : Int) + t2)), r3.1, ([] : List (api_Pair)), ())
        else
          some (false, ())
/-! downspout/downspoutref13.Shape -/
def ref13_Shape (s : (api_Shape) × Unit) : Option ((api_Shape) × Unit) :=
  let t0 : Int := (Int.tmod (IntKind.i64.wrap s.1.1) (8 : Int))
  let t1 : Int := (Int.tmod (IntKind.i64.wrap s.1.2.1) (5 : Int))
  let t2 : Int := (Int.tmod (IntKind.i64.wrap s.1.2.2.1) (6 : Int))
  some (((IntKind.i64.wrap ((1 : Int) + t0)), ((IntKind.i64.wrap ((1 : Int) + t1)), ((IntKind.i64.wrap ((1 : Int) + t2)), ()))), ())
/-! downspout/downspoutlaw13.SplitLeaves -/
def law13_SplitLeaves_b1 (s : (Bool) × (List (api_Pair)) × (Int) × (Int) × (api_Shape) × (ref13_Split) × (List (api_Pair)) × Unit) : Option (((Bool) × (List (api_Pair)) × (Int) × (Int) × (api_Shape) × (ref13_Split) × (List (api_Pair)) × Unit) ⊕ (((Bool) × Unit) ⊕ ((Bool) × (List (api_Pair)) × (Int) × (api_Shape) × (ref13_Split) × (List (api_Pair)) × Unit))) :=
  bif (decide ((0 : Int) ≤ s.2.2.1) && decide ((s.2.2.1 : Int) < (List.length s.2.2.2.2.2.1.1 : Int))) then
    let t0 : api_Node := (List.getD s.2.2.2.2.2.1.1 (Int.toNat s.2.2.1) ([], ([], ([], ([], ([], ()))))))
    let t1 : Bool := (decide ((s.2.2.2.1 : Int) < ((List.length t0.1) : Int)))
    bif t1 then
      bif (decide ((0 : Int) ≤ s.2.2.1) && decide ((s.2.2.1 : Int) < (List.length s.2.2.2.2.2.1.1 : Int))) then
        let t2 : api_Node := (List.getD s.2.2.2.2.2.1.1 (Int.toNat s.2.2.1) ([], ([], ([], ([], ([], ()))))))
        bif (decide ((0 : Int) ≤ s.2.2.2.1) && decide ((s.2.2.2.1 : Int) < (List.length t2.1 : Int))) then
          let t3 : api_Pair := (List.getD t2.1 (Int.toNat s.2.2.2.1) ([], ([], ((0 : Int), ()))))
          bif (decide ((s.2.2.1 : Int) > (0 : Int))) then
            bif (decide ((0 : Int) ≤ (IntKind.i64.wrap (s.2.2.1 - (1 : Int)))) && decide (((IntKind.i64.wrap (s.2.2.1 - (1 : Int))) : Int) < (List.length s.2.2.2.2.2.1.2.1 : Int))) then
              let t4 : List UInt8 := (List.getD s.2.2.2.2.2.1.2.1 (Int.toNat (IntKind.i64.wrap (s.2.2.1 - (1 : Int)))) [])
              bif (!(Op.bytesLess t3.1 t4)) then
                let t5 : Bool := (decide ((s.2.2.1 : Int) < ((List.length s.2.2.2.2.2.1.2.1) : Int)))
                bif t5 then
                  bif (decide ((0 : Int) ≤ s.2.2.1) && decide ((s.2.2.1 : Int) < (List.length s.2.2.2.2.2.1.2.1 : Int))) then
                    let t6 : List UInt8 := (List.getD s.2.2.2.2.2.1.2.1 (Int.toNat s.2.2.1) [])
                    bif (!(Op.bytesLess t3.1 t6)) then
                      some (.inr (.inl (false, ())))
                    else
                      let t7 : Int := (IntKind.i64.wrap (s.2.2.2.1 + (1 : Int)))
                      some (.inl (s.1, s.2.1, s.2.2.1, t7, s.2.2.2.2.1, s.2.2.2.2.2.1, s.2.2.2.2.2.2.1, ()))
                  else
                    none
                else
                  let t6 : Int := (IntKind.i64.wrap (s.2.2.2.1 + (1 : Int)))
                  some (.inl (s.1, s.2.1, s.2.2.1, t6, s.2.2.2.2.1, s.2.2.2.2.2.1, s.2.2.2.2.2.2.1, ()))
              else
                some (.inr (.inl (false, ())))
            else
              none
          else
            let t4 : Bool := (decide ((s.2.2.1 : Int) < ((List.length s.2.2.2.2.2.1.2.1) : Int)))
            bif t4 then
              bif (decide ((0 : Int) ≤ s.2.2.1) && decide ((s.2.2.1 : Int) < (List.length s.2.2.2.2.2.1.2.1 : Int))) then
                let t5 : List UInt8 := (List.getD s.2.2.2.2.2.1.2.1 (Int.toNat s.2.2.1) [])
                bif (!(Op.bytesLess t3.1 t5)) then
                  some (.inr (.inl (false, ())))
                else
                  let t6 : Int := (IntKind.i64.wrap (s.2.2.2.1 + (1 : Int)))
                  some (.inl (s.1, s.2.1, s.2.2.1, t6, s.2.2.2.2.1, s.2.2.2.2.2.1, s.2.2.2.2.2.2.1, ()))
              else
                none
            else
              let t5 : Int := (IntKind.i64.wrap (s.2.2.2.1 + (1 : Int)))
              some (.inl (s.1, s.2.1, s.2.2.1, t5, s.2.2.2.2.1, s.2.2.2.2.2.1, s.2.2.2.2.2.2.1, ()))
        else
          none
      else
        none
    else
      some (.inr (.inr (s.1, s.2.1, s.2.2.1, s.2.2.2.2.1, s.2.2.2.2.2.1, s.2.2.2.2.2.2.1, ())))
  else
    none
def law13_SplitLeaves_l1 (s : (Bool) × (List (api_Pair)) × (Int) × (Int) × (api_Shape) × (ref13_Split) × (List (api_Pair)) × Unit) : Option (((Bool) × Unit) ⊕ ((Bool) × (List (api_Pair)) × (Int) × (api_Shape) × (ref13_Split) × (List (api_Pair)) × Unit)) := loopO law13_SplitLeaves_b1 s
def law13_SplitLeaves_b0_j0 (s : (Bool) × (List (api_Pair)) × (Int) × (Bool) × (api_Shape) × (ref13_Split) × (List (api_Pair)) × Unit) : Option (((Bool) × (List (api_Pair)) × (Int) × (api_Shape) × (ref13_Split) × (List (api_Pair)) × Unit) ⊕ (((Bool) × Unit) ⊕ ((Bool) × (List (api_Pair)) × (ref13_Split) × (List (api_Pair)) × Unit))) :=
  bif s.2.2.2.1 then
    some (.inr (.inl (false, ())))
  else
    match law13_SplitLeaves_l1 (s.1, s.2.1, s.2.2.1, (0 : Int), s.2.2.2.2.1, s.2.2.2.2.2.1, s.2.2.2.2.2.2.1, ()) with
    | none => none
    | some (.inl z0) =>
      some (.inr (.inl (z0.1, ())))
    | some (.inr z0) =>
      bif (decide ((0 : Int) ≤ z0.2.2.1) && decide ((z0.2.2.1 : Int) < (List.length z0.2.2.2.2.1.1 : Int))) then
        let t1 : api_Node := (List.getD z0.2.2.2.2.1.1 (Int.toNat z0.2.2.1) ([], ([], ([], ([], ([], ()))))))
        bif (decide ((List.length z0.2.2.2.2.2.1 + List.length t1.1) * 40 ≤ roomMax)) then
          let t2 : Int := (IntKind.i64.wrap (z0.2.2.1 + (1 : Int)))
          some (.inl (z0.1, z0.2.1, t2, z0.2.2.2.1, z0.2.2.2.2.1, (z0.2.2.2.2.2.1 ++ t1.1), ()))
        else
          none
      else
        none

def law13_SplitLeaves_b0 (s : (Bool) × (List (api_Pair)) × (Int) × (api_Shape) × (ref13_Split) × (List (api_Pair)) × Unit) : Option (((Bool) × (List (api_Pair)) × (Int) × (api_Shape) × (ref13_Split) × (List (api_Pair)) × Unit) ⊕ (((Bool) × Unit) ⊕ ((Bool) × (List (api_Pair)) × (ref13_Split) × (List (api_Pair)) × Unit))) :=
  let t0 : Bool := (decide ((s.2.2.1 : Int) < ((List.length s.2.2.2.2.1.1) : Int)))
  bif t0 then
    bif (decide ((0 : Int) ≤ s.2.2.1) && decide ((s.2.2.1 : Int) < (List.length s.2.2.2.2.1.1 : Int))) then
      let t1 : api_Node := (List.getD s.2.2.2.2.1.1 (Int.toNat s.2.2.1) ([], ([], ([], ([], ([], ()))))))
      let t2 : Bool := (decide ((((List.length t1.1) : Int) : Int) > s.2.2.2.1.1))
      bif (!t2) then
        bif (decide ((0 : Int) ≤ s.2.2.1) && decide ((s.2.2.1 : Int) < (List.length s.2.2.2.2.1.1 : Int))) then
          let t3 : api_Node := (List.getD s.2.2.2.2.1.1 (Int.toNat s.2.2.1) ([], ([], ([], ([], ([], ()))))))
          let t4 : Bool := (decide ((((List.length t3.2.2.1) : Int) : Int) > (0 : Int)))
          law13_SplitLeaves_b0_j0 (s.1, s.2.1, s.2.2.1, t4, s.2.2.2.1, s.2.2.2.2.1, s.2.2.2.2.2.1, ())
        else
          none
      else
        law13_SplitLeaves_b0_j0 (s.1, s.2.1, s.2.2.1, true, s.2.2.2.1, s.2.2.2.2.1, s.2.2.2.2.2.1, ())
    else
      none
  else
    some (.inr (.inr (s.1, s.2.1, s.2.2.2.2.1, s.2.2.2.2.2.1, ())))
def law13_SplitLeaves_l0 (s : (Bool) × (List (api_Pair)) × (Int) × (api_Shape) × (ref13_Split) × (List (api_Pair)) × Unit) : Option (((Bool) × Unit) ⊕ ((Bool) × (List (api_Pair)) × (ref13_Split) × (List (api_Pair)) × Unit)) := loopO law13_SplitLeaves_b0 s
def law13_SplitLeaves_b2 (s : (Bool) × (List (api_Pair)) × (Int) × (ref13_Split) × (List (api_Pair)) × Unit) : Option (((Bool) × (List (api_Pair)) × (Int) × (ref13_Split) × (List (api_Pair)) × Unit) ⊕ (((Bool) × Unit) ⊕ ((Bool) × (List (api_Pair)) × (List (api_Pair)) × Unit))) :=
  let t0 : Bool := (decide ((s.2.2.1 : Int) < ((List.length s.2.2.2.1.2.1) : Int)))
  bif t0 then
    bif (decide ((0 : Int) ≤ (IntKind.i64.wrap (s.2.2.1 - (1 : Int)))) && decide (((IntKind.i64.wrap (s.2.2.1 - (1 : Int))) : Int) < (List.length s.2.2.2.1.2.1 : Int))) then
      let t1 : List UInt8 := (List.getD s.2.2.2.1.2.1 (Int.toNat (IntKind.i64.wrap (s.2.2.1 - (1 : Int)))) [])
      bif (decide ((0 : Int) ≤ s.2.2.1) && decide ((s.2.2.1 : Int) < (List.length s.2.2.2.1.2.1 : Int))) then
        let t2 : List UInt8 := (List.getD s.2.2.2.1.2.1 (Int.toNat s.2.2.1) [])
        bif (!(Op.bytesLess t1 t2)) then
          some (.inr (.inl (false, ())))
        else
          some (.inl (s.1, s.2.1, (IntKind.i64.wrap (s.2.2.1 + (1 : Int))), s.2.2.2.1, s.2.2.2.2.1, ()))
      else
        none
    else
      none
  else
    some (.inr (.inr (s.1, s.2.1, s.2.2.2.2.1, ())))
def law13_SplitLeaves_l2 (s : (Bool) × (List (api_Pair)) × (Int) × (ref13_Split) × (List (api_Pair)) × Unit) : Option (((Bool) × Unit) ⊕ ((Bool) × (List (api_Pair)) × (List (api_Pair)) × Unit)) := loopO law13_SplitLeaves_b2 s
def law13_SplitLeaves_j0 (s : (Bool) × (List (api_Pair)) × (Bool) × (api_Shape) × (ref13_Split) × (List (api_Pair)) × Unit) : Option ((Bool) × Unit) :=
  bif s.2.2.1 then
    some (false, ())
  else
    match law13_SplitLeaves_l0 (s.1, s.2.1, (0 : Int), s.2.2.2.1, s.2.2.2.2.1, s.2.2.2.2.2.1, ()) with
    | none => none
    | some (.inl z0) =>
      some (z0.1, ())
    | some (.inr z0) =>
      match law13_SplitLeaves_l2 (z0.1, z0.2.1, (1 : Int), z0.2.2.1, z0.2.2.2.1, ()) with
      | none => none
      | some (.inl z1) =>
        some (z1.1, ())
      | some (.inr z1) =>
        match ref04_Same (z1.2.2.1, z1.2.1, ()) with
        | none => none
        | some r2 =>
          bif r2.1 then
            some (z1.1, ())
          else
            some (false, ())

def law13_SplitLeaves (s : (List (api_Shape)) × (api_Shape) × Unit) : Option ((Bool) × Unit) :=
  match law13_sanity (()) with
  | none => none
  | some r0 =>
    match ref04_Made (s.1, ()) with
    | none => none
    | some r1 =>
      match ref13_Shape (s.2.1, ()) with
      | none => none
      | some r2 =>
        match law13_leaf ((r1.1, ([], ([], ([], ([], ()))))), r2.1, ()) with
        | none => none
        | some r3 =>
          let t4 : Bool := (decide ((((List.length r3.1.1) : Int) : Int) = (0 : Int)))
          bif (!t4) then
            let t5 : Int := (if ((1 : Int) : Int) < ((List.length r1.1) : Int) then ((List.length r1.1) : Int) else (1 : Int))
            let t6 : Bool := (decide ((((List.length r3.1.1) : Int) : Int) > t5))
            bif (!t6) then
              let t7 : Int := (IntKind.i64.wrap (((List.length r3.1.1) : Int) - (1 : Int)))
              let t8 : Bool := (!decide ((((List.length r3.1.2.1) : Int) : Int) = t7))
              bif (!t8) then
                let t9 : Bool := (decide ((((List.length r3.1.1) : Int) : Int) = (1 : Int)))
                let t10 : Bool := (decide ((((List.length r1.1) : Int) : Int) ≤ r2.1.1))
                law13_SplitLeaves_j0 (r0.1, r1.1, (!(t9 == t10)), r2.1, r3.1, ([] : List (api_Pair)), ())
              else
                law13_SplitLeaves_j0 (r0.1, r1.1, true, r2.1, r3.1, ([] : List (api_Pair)), ())
            else
              law13_SplitLeaves_j0 (r0.1, r1.1, true, r2.1, r3.1, ([] : List (api_Pair)), ())
          else
            law13_SplitLeaves_j0 (r0.1, r1.1, true, r2.1, r3.1, ([] : List (api_Pair)), ())
/-! downspout/downspoutref02.Pivots -/
def ref02_Pivots_b1_j0 (s : (List (List UInt8)) × (Int) × (Bool) × (Int) × (List (List UInt8)) × (List (List UInt8)) × Unit) : Option (((List (List UInt8)) × (Int) × (Bool) × (Int) × (List (List UInt8)) × (List (List UInt8)) × Unit) ⊕ (((List (List UInt8)) × (Int) × (Bool) × (List (List UInt8)) × Unit) ⊕ (Unit))) :=
  bif (decide ((0 : Int) ≤ s.2.2.2.1) && decide ((s.2.2.2.1 : Int) < (List.length s.2.2.2.2.1 : Int))) then
    let t0 : List UInt8 := (List.getD s.2.2.2.2.1 (Int.toNat s.2.2.2.1) [])
    bif (decide ((List.length s.2.2.2.2.2.1 + List.length ([t0] : List (List UInt8))) * 16 ≤ roomMax)) then
      let t1 : List (List UInt8) := (s.2.2.2.2.2.1 ++ ([t0] : List (List UInt8)))
      let t2 : Int := (IntKind.i64.wrap (s.2.2.2.1 + (1 : Int)))
      some (.inl (s.1, s.2.1, s.2.2.1, t2, s.2.2.2.2.1, t1, ()))
    else
      none
  else
    none
def ref02_Pivots_b1_j1 (s : (List (List UInt8)) × (Int) × (Bool) × (Int) × (Bool) × (List (List UInt8)) × (List (List UInt8)) × Unit) : Option (((List (List UInt8)) × (Int) × (Bool) × (Int) × (List (List UInt8)) × (List (List UInt8)) × Unit) ⊕ (((List (List UInt8)) × (Int) × (Bool) × (List (List UInt8)) × Unit) ⊕ (Unit))) :=
  bif s.2.2.2.2.1 then
    bif (decide ((0 : Int) ≤ s.2.1) && decide ((s.2.1 : Int) < (List.length s.1 : Int))) then
      bif (decide ((0 : Int) ≤ s.2.2.2.1) && decide ((s.2.2.2.1 : Int) < (List.length s.2.2.2.2.2.1 : Int))) then
        let t0 : List UInt8 := (List.getD s.2.2.2.2.2.1 (Int.toNat s.2.2.2.1) [])
        let t1 : Bool := (Op.bytesLess (List.getD s.1 (Int.toNat s.2.1) []) t0)
        bif t1 then
          bif (decide ((0 : Int) ≤ s.2.1) && decide ((s.2.1 : Int) < (List.length s.1 : Int))) then
            bif (decide ((List.length s.2.2.2.2.2.2.1 + List.length ([(List.getD s.1 (Int.toNat s.2.1) [])] : List (List UInt8))) * 16 ≤ roomMax)) then
              let t2 : List (List UInt8) := (s.2.2.2.2.2.2.1 ++ ([(List.getD s.1 (Int.toNat s.2.1) [])] : List (List UInt8)))
              ref02_Pivots_b1_j0 (s.1, s.2.1, true, s.2.2.2.1, s.2.2.2.2.2.1, t2, ())
            else
              none
          else
            none
        else
          ref02_Pivots_b1_j0 (s.1, s.2.1, true, s.2.2.2.1, s.2.2.2.2.2.1, s.2.2.2.2.2.2.1, ())
      else
        none
    else
      none
  else
    ref02_Pivots_b1_j0 (s.1, s.2.1, s.2.2.1, s.2.2.2.1, s.2.2.2.2.2.1, s.2.2.2.2.2.2.1, ())

def ref02_Pivots_b1 (s : (List (List UInt8)) × (Int) × (Bool) × (Int) × (List (List UInt8)) × (List (List UInt8)) × Unit) : Option (((List (List UInt8)) × (Int) × (Bool) × (Int) × (List (List UInt8)) × (List (List UInt8)) × Unit) ⊕ (((List (List UInt8)) × (Int) × (Bool) × (List (List UInt8)) × Unit) ⊕ (Unit))) :=
  let t0 : Bool := (decide ((s.2.2.2.1 : Int) < ((List.length s.2.2.2.2.1) : Int)))
  bif t0 then
    bif (!s.2.2.1) then
      bif (decide ((0 : Int) ≤ s.2.1) && decide ((s.2.1 : Int) < (List.length s.1 : Int))) then
        bif (decide ((0 : Int) ≤ s.2.2.2.1) && decide ((s.2.2.2.1 : Int) < (List.length s.2.2.2.2.1 : Int))) then
          let t1 : List UInt8 := (List.getD s.2.2.2.2.1 (Int.toNat s.2.2.2.1) [])
          let t2 : Bool := (Op.bytesLess (List.getD s.1 (Int.toNat s.2.1) []) t1 || decide (((List.getD s.1 (Int.toNat s.2.1) []) : List UInt8) = t1))
          ref02_Pivots_b1_j1 (s.1, s.2.1, s.2.2.1, s.2.2.2.1, t2, s.2.2.2.2.1, s.2.2.2.2.2.1, ())
        else
          none
      else
        none
    else
      ref02_Pivots_b1_j1 (s.1, s.2.1, s.2.2.1, s.2.2.2.1, false, s.2.2.2.2.1, s.2.2.2.2.2.1, ())
  else
    some (.inr (.inl (s.1, s.2.1, s.2.2.1, s.2.2.2.2.2.1, ())))
def ref02_Pivots_l1 (s : (List (List UInt8)) × (Int) × (Bool) × (Int) × (List (List UInt8)) × (List (List UInt8)) × Unit) : Option (((List (List UInt8)) × (Int) × (Bool) × (List (List UInt8)) × Unit) ⊕ (Unit)) := loopO ref02_Pivots_b1 s
def ref02_Pivots_b0 (s : (List (List UInt8)) × (Int) × (List (List UInt8)) × Unit) : Option (((List (List UInt8)) × (Int) × (List (List UInt8)) × Unit) ⊕ (((List (List UInt8)) × Unit) ⊕ (Unit))) :=
  let t0 : Bool := (decide ((s.2.1 : Int) < ((List.length s.1) : Int)))
  bif t0 then
    bif (decide ((0 : Int) ≤ s.2.1) && decide ((s.2.1 : Int) < (List.length s.1 : Int))) then
      let t1 : Bool := (decide (((List.getD s.1 (Int.toNat s.2.1) []) : List UInt8) = ([] : List UInt8)))
      match ref02_Pivots_l1 (s.1, s.2.1, t1, (0 : Int), s.2.2.1, ([] : List (List UInt8)), ()) with
      | none => none
      | some (.inl z2) =>
        bif (!z2.2.2.1) then
          bif (decide ((0 : Int) ≤ z2.2.1) && decide ((z2.2.1 : Int) < (List.length z2.1 : Int))) then
            bif (decide ((List.length z2.2.2.2.1 + List.length ([(List.getD z2.1 (Int.toNat z2.2.1) [])] : List (List UInt8))) * 16 ≤ roomMax)) then
              let t3 : List (List UInt8) := (z2.2.2.2.1 ++ ([(List.getD z2.1 (Int.toNat z2.2.1) [])] : List (List UInt8)))
              some (.inl (z2.1, (IntKind.i64.wrap (z2.2.1 + (1 : Int))), t3, ()))
            else
              none
          else
            none
        else
          some (.inl (z2.1, (IntKind.i64.wrap (z2.2.1 + (1 : Int))), z2.2.2.2.1, ()))
      | some (.inr z2) =>
        none
    else
      none
  else
    some (.inr (.inl (s.2.2.1, ())))
def ref02_Pivots_l0 (s : (List (List UInt8)) × (Int) × (List (List UInt8)) × Unit) : Option (((List (List UInt8)) × Unit) ⊕ (Unit)) := loopO ref02_Pivots_b0 s
def ref02_Pivots (s : (List (List UInt8)) × Unit) : Option ((List (List UInt8)) × Unit) :=
  match ref02_Pivots_l0 (s.1, (0 : Int), ([] : List (List UInt8)), ()) with
  | none => none
  | some (.inl z0) =>
    some (z0.1, ())
  | some (.inr z0) =>
    none
/-! downspout/downspoutref05.Path -/
def ref05_Path (s : (Int) × Unit) : Option ((List UInt8) × Unit) :=
  bif (decide ((0 : Int) ≤ (Int.tmod s.1 (5 : Int))) && decide (((Int.tmod s.1 (5 : Int)) : Int) < (List.length ([([97, 47] : List UInt8), ([98, 47] : List UInt8), ([97, 47, 98, 47] : List UInt8), ([99, 47] : List UInt8), ([100, 47] : List UInt8)] : List (List UInt8)) : Int))) then
    let t0 : List UInt8 := (List.getD ([([97, 47] : List UInt8), ([98, 47] : List UInt8), ([97, 47, 98, 47] : List UInt8), ([99, 47] : List UInt8), ([100, 47] : List UInt8)] : List (List UInt8)) (Int.toNat (Int.tmod s.1 (5 : Int))) [])
    some (t0, ())
  else
    none
/-! downspout/downspoutref05.Key -/
def ref05_Key (s : (Int) × Unit) : Option ((List UInt8) × Unit) :=
  match ref05_Path ((Int.tmod s.1 (4 : Int)), ()) with
  | none => none
  | some r0 =>
    let t1 : Int := (IntKind.u8.wrap (Int.tdiv s.1 (4 : Int)))
    bif (decide ((0 : Int) ≤ (Int.tmod t1 (5 : Int))) && decide (((Int.tmod t1 (5 : Int)) : Int) < (List.length ([([1] : List UInt8), ([2, 0, 0] : List UInt8), ([2, 0, 1] : List UInt8), ([2, 0, 2] : List UInt8), ([3, 120] : List UInt8)] : List (List UInt8)) : Int))) then
      let t2 : List UInt8 := (List.getD ([([1] : List UInt8), ([2, 0, 0] : List UInt8), ([2, 0, 1] : List UInt8), ([2, 0, 2] : List UInt8), ([3, 120] : List UInt8)] : List (List UInt8)) (Int.toNat (Int.tmod t1 (5 : Int))) [])
      bif (decide (List.length r0.1 + List.length t2 ≤ roomMax)) then
        some ((r0.1 ++ t2), ())
      else
        none
    else
      none
/-! downspout/downspoutref02.Prefix -/
def ref02_Prefix_b0 (s : (List UInt8) × (Int) × (List UInt8) × (List UInt8) × Unit) : Option (((List UInt8) × (Int) × (List UInt8) × (List UInt8) × Unit) ⊕ (((List UInt8) × (Int) × (List UInt8) × (List UInt8) × Unit) ⊕ (Unit))) :=
  bif (decide ((s.2.1 : Int) > (0 : Int))) then
    bif (decide ((0 : Int) ≤ (IntKind.i64.wrap (s.2.1 - (1 : Int)))) && decide (((IntKind.i64.wrap (s.2.1 - (1 : Int))) : Int) < (List.length s.1 : Int))) then
      let t0 : Int := ((List.getD s.1 (Int.toNat (IntKind.i64.wrap (s.2.1 - (1 : Int)))) 0).toNat : Int)
      bif (decide ((t0 : Int) = (255 : Int))) then
        some (.inl (s.1, (IntKind.i64.wrap (s.2.1 - (1 : Int))), s.2.2.1, s.2.2.2.1, ()))
      else
        some (.inr (.inl (s.1, s.2.1, s.2.2.1, s.2.2.2.1, ())))
    else
      none
  else
    some (.inr (.inl (s.1, s.2.1, s.2.2.1, s.2.2.2.1, ())))
def ref02_Prefix_l0 (s : (List UInt8) × (Int) × (List UInt8) × (List UInt8) × Unit) : Option (((List UInt8) × (Int) × (List UInt8) × (List UInt8) × Unit) ⊕ (Unit)) := loopO ref02_Prefix_b0 s
def ref02_Prefix (s : (List UInt8) × Unit) : Option ((api_Span) × Unit) :=
  match ref02_Prefix_l0 (s.1, ((List.length s.1) : Int), [], [], ()) with
  | none => none
  | some (.inl z0) =>
    bif (decide ((z0.2.1 : Int) = (0 : Int))) then
      some ((z0.1, ([], ())), ())
    else
      bif (decide (((0 : Int) : Int) ≤ (IntKind.i64.wrap (z0.2.1 - (1 : Int)))) && decide (((IntKind.i64.wrap (z0.2.1 - (1 : Int))) : Int) ≤ (List.length z0.1 : Int))) then
        let t1 : List UInt8 := (List.drop 0 (List.take (Int.toNat (IntKind.i64.wrap (z0.2.1 - (1 : Int)))) z0.1))
        bif (decide ((0 : Int) ≤ (IntKind.i64.wrap (z0.2.1 - (1 : Int)))) && decide (((IntKind.i64.wrap (z0.2.1 - (1 : Int))) : Int) < (List.length z0.1 : Int))) then
          let t2 : Int := ((List.getD z0.1 (Int.toNat (IntKind.i64.wrap (z0.2.1 - (1 : Int)))) 0).toNat : Int)
          let t3 : List UInt8 := (sOfBytes ([(IntKind.u8.wrap (t2 + (1 : Int)))] : List (Int)))
          bif (decide (List.length t1 + List.length t3 ≤ roomMax)) then
            some ((z0.1, ((t1 ++ t3), ())), ())
          else
            none
        else
          none
      else
        none
  | some (.inr z0) =>
    none
/-! downspout/downspoutref02.Begins -/
def ref02_Begins (s : api_Span) : Option ((Bool) × Unit) :=
  let t0 : Bool := (decide ((((List.length s.1) : Int) : Int) ≥ ((List.length s.2.1) : Int)))
  bif t0 then
    bif (decide (((0 : Int) : Int) ≤ ((List.length s.2.1) : Int)) && decide ((((List.length s.2.1) : Int) : Int) ≤ (List.length s.1 : Int))) then
      let t1 : List UInt8 := (List.drop 0 (List.take (Int.toNat ((List.length s.2.1) : Int)) s.1))
      some ((decide ((t1 : List UInt8) = s.2.1)), ())
    else
      none
  else
    some (false, ())
/-! downspout/downspoutref05.Value -/
def ref05_Value (s : (Int) × Unit) : Option ((List UInt8) × Unit) :=
  bif (decide ((0 : Int) ≤ (Int.tmod s.1 (5 : Int))) && decide (((Int.tmod s.1 (5 : Int)) : Int) < (List.length ([([] : List UInt8), ([120] : List UInt8), ([121, 121] : List UInt8), ([49, 50, 51, 52, 53, 54, 55, 56, 57, 48] : List UInt8), ([0, 255] : List UInt8)] : List (List UInt8)) : Int))) then
    let t0 : List UInt8 := (List.getD ([([] : List UInt8), ([120] : List UInt8), ([121, 121] : List UInt8), ([49, 50, 51, 52, 53, 54, 55, 56, 57, 48] : List UInt8), ([0, 255] : List UInt8)] : List (List UInt8)) (Int.toNat (Int.tmod s.1 (5 : Int))) [])
    some (t0, ())
  else
    none
/-! downspout/downspoutref02.One -/
def ref02_One (s : (List UInt8) × Unit) : Option ((api_Span) × Unit) :=
  bif (decide (List.length s.1 + List.length ([0] : List UInt8) ≤ roomMax)) then
    some ((s.1, ((s.1 ++ ([0] : List UInt8)), ())), ())
  else
    none
/-! downspout/downspoutref05.Made -/
def ref05_Made_j0 (s : (List UInt8) × (List UInt8) × (List UInt8) × ((Int) × (Int) × (Int) × (Int) × (Int) × (Int) × Unit) × (Int) × (List UInt8) × (List UInt8) × (List UInt8) × (List UInt8) × (List UInt8) × (List UInt8) × (Int) × (api_Span) × Unit) : Option ((api_Msg) × Unit) :=
  let t0 : Int := (Int.tmod s.2.2.2.1.2.2.2.2.2.1 (8 : Int))
  let t1 : Bool := (decide (((Int.tmod s.2.2.2.1.1 (6 : Int)) : Int) = (0 : Int)))
  bif t1 then
    match ref05_Value (s.2.2.2.1.2.2.1, ()) with
    | none => none
    | some r2 =>
      some (((1 : Int), (s.1, (r2.1, (([], ([], ())), ([], ([], ((IntKind.i64.wrap t0), ()))))))), ())
  else
    let t2 : Bool := (decide (((Int.tmod s.2.2.2.1.1 (6 : Int)) : Int) = (1 : Int)))
    bif t2 then
      some (((2 : Int), (s.1, ([], (([], ([], ())), ([], ([], ((0 : Int), ()))))))), ())
    else
      let t3 : Bool := (decide (((Int.tmod s.2.2.2.1.1 (6 : Int)) : Int) = (2 : Int)))
      bif t3 then
        some (((3 : Int), ([], ([], (s.2.2.2.2.2.2.2.2.2.2.2.2.1, ([], ([], ((0 : Int), ()))))))), ())
      else
        let t4 : Bool := (decide (((Int.tmod s.2.2.2.1.1 (6 : Int)) : Int) = (3 : Int)))
        bif t4 then
          some (((4 : Int), ([], ([], (([], ([], ())), (s.2.1, (s.2.2.1, ((0 : Int), ()))))))), ())
        else
          let t5 : Bool := (decide (((Int.tmod s.2.2.2.1.1 (6 : Int)) : Int) = (4 : Int)))
          bif t5 then
            some (((5 : Int), ([], ([], (([], ([], ())), (s.2.1, (s.2.2.1, ((0 : Int), ()))))))), ())
          else
            some (((6 : Int), ([], ([], (s.2.2.2.2.2.2.2.2.2.2.2.2.1, ([], ([], ((IntKind.i64.wrap t0), ()))))))), ())
def ref05_Made_j1 (s : (List UInt8) × (List UInt8) × (List UInt8) × (Bool) × ((Int) × (Int) × (Int) × (Int) × (Int) × (Int) × Unit) × (Int) × (List UInt8) × (List UInt8) × (List UInt8) × (List UInt8) × (List UInt8) × (List UInt8) × (Int) × (api_Span) × Unit) : Option ((api_Msg) × Unit) :=
  bif s.2.2.2.1 then
    let t0 : Bool := (decide ((s.2.1 : List UInt8) = ([100, 47] : List UInt8)))
    bif t0 then
      ref05_Made_j0 (s.1, s.2.1, ([99, 47] : List UInt8), s.2.2.2.2.1, s.2.2.2.2.2.1, s.2.2.2.2.2.2.1, s.2.2.2.2.2.2.2.1, s.2.2.2.2.2.2.2.2.1, s.2.2.2.2.2.2.2.2.2.1, s.2.2.2.2.2.2.2.2.2.2.1, s.2.2.2.2.2.2.2.2.2.2.2.1, s.2.2.2.2.2.2.2.2.2.2.2.2.1, s.2.2.2.2.2.2.2.2.2.2.2.2.2.1, ())
    else
      ref05_Made_j0 (s.1, s.2.1, ([100, 47] : List UInt8), s.2.2.2.2.1, s.2.2.2.2.2.1, s.2.2.2.2.2.2.1, s.2.2.2.2.2.2.2.1, s.2.2.2.2.2.2.2.2.1, s.2.2.2.2.2.2.2.2.2.1, s.2.2.2.2.2.2.2.2.2.2.1, s.2.2.2.2.2.2.2.2.2.2.2.1, s.2.2.2.2.2.2.2.2.2.2.2.2.1, s.2.2.2.2.2.2.2.2.2.2.2.2.2.1, ())
  else
    ref05_Made_j0 (s.1, s.2.1, s.2.2.1, s.2.2.2.2.1, s.2.2.2.2.2.1, s.2.2.2.2.2.2.1, s.2.2.2.2.2.2.2.1, s.2.2.2.2.2.2.2.2.1, s.2.2.2.2.2.2.2.2.2.1, s.2.2.2.2.2.2.2.2.2.2.1, s.2.2.2.2.2.2.2.2.2.2.2.1, s.2.2.2.2.2.2.2.2.2.2.2.2.1, s.2.2.2.2.2.2.2.2.2.2.2.2.2.1, ())
def ref05_Made_j2 (s : (List UInt8) × (List UInt8) × (List UInt8) × ((Int) × (Int) × (Int) × (Int) × (Int) × (Int) × Unit) × (Int) × (List UInt8) × (List UInt8) × (List UInt8) × (List UInt8) × (List UInt8) × (List UInt8) × (Int) × (List UInt8) × (List UInt8) × Unit) : Option ((api_Msg) × Unit) :=
  let t0 : Int := (Int.tmod s.2.2.2.1.2.2.2.2.2.1 (8 : Int))
  let t1 : Bool := (decide (((Int.tmod s.2.2.2.1.1 (6 : Int)) : Int) = (0 : Int)))
  bif t1 then
    match ref05_Value (s.2.2.2.1.2.2.1, ()) with
    | none => none
    | some r2 =>
      some (((1 : Int), (s.1, (r2.1, (([], ([], ())), ([], ([], ((IntKind.i64.wrap t0), ()))))))), ())
  else
    let t2 : Bool := (decide (((Int.tmod s.2.2.2.1.1 (6 : Int)) : Int) = (1 : Int)))
    bif t2 then
      some (((2 : Int), (s.1, ([], (([], ([], ())), ([], ([], ((0 : Int), ()))))))), ())
    else
      let t3 : Bool := (decide (((Int.tmod s.2.2.2.1.1 (6 : Int)) : Int) = (2 : Int)))
      bif t3 then
        some (((3 : Int), ([], ([], ((s.2.2.2.2.2.2.2.2.2.2.2.2.1, (s.2.2.2.2.2.2.2.2.2.2.2.2.2.1, ())), ([], ([], ((0 : Int), ()))))))), ())
      else
        let t4 : Bool := (decide (((Int.tmod s.2.2.2.1.1 (6 : Int)) : Int) = (3 : Int)))
        bif t4 then
          some (((4 : Int), ([], ([], (([], ([], ())), (s.2.1, (s.2.2.1, ((0 : Int), ()))))))), ())
        else
          let t5 : Bool := (decide (((Int.tmod s.2.2.2.1.1 (6 : Int)) : Int) = (4 : Int)))
          bif t5 then
            some (((5 : Int), ([], ([], (([], ([], ())), (s.2.1, (s.2.2.1, ((0 : Int), ()))))))), ())
          else
            some (((6 : Int), ([], ([], ((s.2.2.2.2.2.2.2.2.2.2.2.2.1, (s.2.2.2.2.2.2.2.2.2.2.2.2.2.1, ())), ([], ([], ((IntKind.i64.wrap t0), ()))))))), ())
def ref05_Made_j3 (s : (List UInt8) × (List UInt8) × (List UInt8) × (Bool) × ((Int) × (Int) × (Int) × (Int) × (Int) × (Int) × Unit) × (Int) × (List UInt8) × (List UInt8) × (List UInt8) × (List UInt8) × (List UInt8) × (List UInt8) × (Int) × (List UInt8) × (List UInt8) × Unit) : Option ((api_Msg) × Unit) :=
  bif s.2.2.2.1 then
    let t0 : Bool := (decide ((s.2.1 : List UInt8) = ([100, 47] : List UInt8)))
    bif t0 then
      ref05_Made_j2 (s.1, s.2.1, ([99, 47] : List UInt8), s.2.2.2.2.1, s.2.2.2.2.2.1, s.2.2.2.2.2.2.1, s.2.2.2.2.2.2.2.1, s.2.2.2.2.2.2.2.2.1, s.2.2.2.2.2.2.2.2.2.1, s.2.2.2.2.2.2.2.2.2.2.1, s.2.2.2.2.2.2.2.2.2.2.2.1, s.2.2.2.2.2.2.2.2.2.2.2.2.1, s.2.2.2.2.2.2.2.2.2.2.2.2.2.1, s.2.2.2.2.2.2.2.2.2.2.2.2.2.2.1, ())
    else
      ref05_Made_j2 (s.1, s.2.1, ([100, 47] : List UInt8), s.2.2.2.2.1, s.2.2.2.2.2.1, s.2.2.2.2.2.2.1, s.2.2.2.2.2.2.2.1, s.2.2.2.2.2.2.2.2.1, s.2.2.2.2.2.2.2.2.2.1, s.2.2.2.2.2.2.2.2.2.2.1, s.2.2.2.2.2.2.2.2.2.2.2.1, s.2.2.2.2.2.2.2.2.2.2.2.2.1, s.2.2.2.2.2.2.2.2.2.2.2.2.2.1, s.2.2.2.2.2.2.2.2.2.2.2.2.2.2.1, ())
  else
    ref05_Made_j2 (s.1, s.2.1, s.2.2.1, s.2.2.2.2.1, s.2.2.2.2.2.1, s.2.2.2.2.2.2.1, s.2.2.2.2.2.2.2.1, s.2.2.2.2.2.2.2.2.1, s.2.2.2.2.2.2.2.2.2.1, s.2.2.2.2.2.2.2.2.2.2.1, s.2.2.2.2.2.2.2.2.2.2.2.1, s.2.2.2.2.2.2.2.2.2.2.2.2.1, s.2.2.2.2.2.2.2.2.2.2.2.2.2.1, s.2.2.2.2.2.2.2.2.2.2.2.2.2.2.1, ())
def ref05_Made_j4 (s : (List UInt8) × (List UInt8) × (List UInt8) × ((Int) × (Int) × (Int) × (Int) × (Int) × (Int) × Unit) × (Int) × (List UInt8) × (List UInt8) × (List UInt8) × (List UInt8) × (List UInt8) × (List UInt8) × (Int) × (List UInt8) × (List UInt8) × Unit) : Option ((api_Msg) × Unit) :=
  let t0 : Int := (Int.tmod s.2.2.2.1.2.2.2.2.2.1 (8 : Int))
  let t1 : Bool := (decide (((Int.tmod s.2.2.2.1.1 (6 : Int)) : Int) = (0 : Int)))
  bif t1 then
    match ref05_Value (s.2.2.2.1.2.2.1, ()) with
    | none => none
    | some r2 =>
      some (((1 : Int), (s.1, (r2.1, (([], ([], ())), ([], ([], ((IntKind.i64.wrap t0), ()))))))), ())
  else
    let t2 : Bool := (decide (((Int.tmod s.2.2.2.1.1 (6 : Int)) : Int) = (1 : Int)))
    bif t2 then
      some (((2 : Int), (s.1, ([], (([], ([], ())), ([], ([], ((0 : Int), ()))))))), ())
    else
      let t3 : Bool := (decide (((Int.tmod s.2.2.2.1.1 (6 : Int)) : Int) = (2 : Int)))
      bif t3 then
        some (((3 : Int), ([], ([], ((s.2.2.2.2.2.2.2.2.2.2.2.2.1, (s.2.2.2.2.2.2.2.2.2.2.2.2.2.1, ())), ([], ([], ((0 : Int), ()))))))), ())
      else
        let t4 : Bool := (decide (((Int.tmod s.2.2.2.1.1 (6 : Int)) : Int) = (3 : Int)))
        bif t4 then
          some (((4 : Int), ([], ([], (([], ([], ())), (s.2.1, (s.2.2.1, ((0 : Int), ()))))))), ())
        else
          let t5 : Bool := (decide (((Int.tmod s.2.2.2.1.1 (6 : Int)) : Int) = (4 : Int)))
          bif t5 then
            some (((5 : Int), ([], ([], (([], ([], ())), (s.2.1, (s.2.2.1, ((0 : Int), ()))))))), ())
          else
            some (((6 : Int), ([], ([], ((s.2.2.2.2.2.2.2.2.2.2.2.2.1, (s.2.2.2.2.2.2.2.2.2.2.2.2.2.1, ())), ([], ([], ((IntKind.i64.wrap t0), ()))))))), ())
def ref05_Made_j5 (s : (List UInt8) × (List UInt8) × (List UInt8) × (Bool) × ((Int) × (Int) × (Int) × (Int) × (Int) × (Int) × Unit) × (Int) × (List UInt8) × (List UInt8) × (List UInt8) × (List UInt8) × (List UInt8) × (List UInt8) × (Int) × (List UInt8) × (List UInt8) × Unit) : Option ((api_Msg) × Unit) :=
  bif s.2.2.2.1 then
    let t0 : Bool := (decide ((s.2.1 : List UInt8) = ([100, 47] : List UInt8)))
    bif t0 then
      ref05_Made_j4 (s.1, s.2.1, ([99, 47] : List UInt8), s.2.2.2.2.1, s.2.2.2.2.2.1, s.2.2.2.2.2.2.1, s.2.2.2.2.2.2.2.1, s.2.2.2.2.2.2.2.2.1, s.2.2.2.2.2.2.2.2.2.1, s.2.2.2.2.2.2.2.2.2.2.1, s.2.2.2.2.2.2.2.2.2.2.2.1, s.2.2.2.2.2.2.2.2.2.2.2.2.1, s.2.2.2.2.2.2.2.2.2.2.2.2.2.1, s.2.2.2.2.2.2.2.2.2.2.2.2.2.2.1, ())
    else
      ref05_Made_j4 (s.1, s.2.1, ([100, 47] : List UInt8), s.2.2.2.2.1, s.2.2.2.2.2.1, s.2.2.2.2.2.2.1, s.2.2.2.2.2.2.2.1, s.2.2.2.2.2.2.2.2.1, s.2.2.2.2.2.2.2.2.2.1, s.2.2.2.2.2.2.2.2.2.2.1, s.2.2.2.2.2.2.2.2.2.2.2.1, s.2.2.2.2.2.2.2.2.2.2.2.2.1, s.2.2.2.2.2.2.2.2.2.2.2.2.2.1, s.2.2.2.2.2.2.2.2.2.2.2.2.2.2.1, ())
  else
    ref05_Made_j4 (s.1, s.2.1, s.2.2.1, s.2.2.2.2.1, s.2.2.2.2.2.1, s.2.2.2.2.2.2.1, s.2.2.2.2.2.2.2.1, s.2.2.2.2.2.2.2.2.1, s.2.2.2.2.2.2.2.2.2.1, s.2.2.2.2.2.2.2.2.2.2.1, s.2.2.2.2.2.2.2.2.2.2.2.1, s.2.2.2.2.2.2.2.2.2.2.2.2.1, s.2.2.2.2.2.2.2.2.2.2.2.2.2.1, s.2.2.2.2.2.2.2.2.2.2.2.2.2.2.1, ())
def ref05_Made_j6 (s : (List UInt8) × (List UInt8) × (List UInt8) × ((Int) × (Int) × (Int) × (Int) × (Int) × (Int) × Unit) × (Int) × (List UInt8) × (List UInt8) × (List UInt8) × (List UInt8) × (List UInt8) × (List UInt8) × (Int) × (api_Span) × Unit) : Option ((api_Msg) × Unit) :=
  let t0 : Int := (Int.tmod s.2.2.2.1.2.2.2.2.2.1 (8 : Int))
  let t1 : Bool := (decide (((Int.tmod s.2.2.2.1.1 (6 : Int)) : Int) = (0 : Int)))
  bif t1 then
    match ref05_Value (s.2.2.2.1.2.2.1, ()) with
    | none => none
    | some r2 =>
      some (((1 : Int), (s.1, (r2.1, (([], ([], ())), ([], ([], ((IntKind.i64.wrap t0), ()))))))), ())
  else
    let t2 : Bool := (decide (((Int.tmod s.2.2.2.1.1 (6 : Int)) : Int) = (1 : Int)))
    bif t2 then
      some (((2 : Int), (s.1, ([], (([], ([], ())), ([], ([], ((0 : Int), ()))))))), ())
    else
      let t3 : Bool := (decide (((Int.tmod s.2.2.2.1.1 (6 : Int)) : Int) = (2 : Int)))
      bif t3 then
        some (((3 : Int), ([], ([], (s.2.2.2.2.2.2.2.2.2.2.2.2.1, ([], ([], ((0 : Int), ()))))))), ())
      else
        let t4 : Bool := (decide (((Int.tmod s.2.2.2.1.1 (6 : Int)) : Int) = (3 : Int)))
        bif t4 then
          some (((4 : Int), ([], ([], (([], ([], ())), (s.2.1, (s.2.2.1, ((0 : Int), ()))))))), ())
        else
          let t5 : Bool := (decide (((Int.tmod s.2.2.2.1.1 (6 : Int)) : Int) = (4 : Int)))
          bif t5 then
            some (((5 : Int), ([], ([], (([], ([], ())), (s.2.1, (s.2.2.1, ((0 : Int), ()))))))), ())
          else
            some (((6 : Int), ([], ([], (s.2.2.2.2.2.2.2.2.2.2.2.2.1, ([], ([], ((IntKind.i64.wrap t0), ()))))))), ())
def ref05_Made_j7 (s : (List UInt8) × (List UInt8) × (List UInt8) × (Bool) × ((Int) × (Int) × (Int) × (Int) × (Int) × (Int) × Unit) × (Int) × (List UInt8) × (List UInt8) × (List UInt8) × (List UInt8) × (List UInt8) × (List UInt8) × (Int) × (api_Span) × Unit) : Option ((api_Msg) × Unit) :=
  bif s.2.2.2.1 then
    let t0 : Bool := (decide ((s.2.1 : List UInt8) = ([100, 47] : List UInt8)))
    bif t0 then
      ref05_Made_j6 (s.1, s.2.1, ([99, 47] : List UInt8), s.2.2.2.2.1, s.2.2.2.2.2.1, s.2.2.2.2.2.2.1, s.2.2.2.2.2.2.2.1, s.2.2.2.2.2.2.2.2.1, s.2.2.2.2.2.2.2.2.2.1, s.2.2.2.2.2.2.2.2.2.2.1, s.2.2.2.2.2.2.2.2.2.2.2.1, s.2.2.2.2.2.2.2.2.2.2.2.2.1, s.2.2.2.2.2.2.2.2.2.2.2.2.2.1, ())
    else
      ref05_Made_j6 (s.1, s.2.1, ([100, 47] : List UInt8), s.2.2.2.2.1, s.2.2.2.2.2.1, s.2.2.2.2.2.2.1, s.2.2.2.2.2.2.2.1, s.2.2.2.2.2.2.2.2.1, s.2.2.2.2.2.2.2.2.2.1, s.2.2.2.2.2.2.2.2.2.2.1, s.2.2.2.2.2.2.2.2.2.2.2.1, s.2.2.2.2.2.2.2.2.2.2.2.2.1, s.2.2.2.2.2.2.2.2.2.2.2.2.2.1, ())
  else
    ref05_Made_j6 (s.1, s.2.1, s.2.2.1, s.2.2.2.2.1, s.2.2.2.2.2.1, s.2.2.2.2.2.2.1, s.2.2.2.2.2.2.2.1, s.2.2.2.2.2.2.2.2.1, s.2.2.2.2.2.2.2.2.2.1, s.2.2.2.2.2.2.2.2.2.2.1, s.2.2.2.2.2.2.2.2.2.2.2.1, s.2.2.2.2.2.2.2.2.2.2.2.2.1, s.2.2.2.2.2.2.2.2.2.2.2.2.2.1, ())
def ref05_Made_j8 (s : (List UInt8) × (List UInt8) × (List UInt8) × ((Int) × (Int) × (Int) × (Int) × (Int) × (Int) × Unit) × (Int) × (List UInt8) × (List UInt8) × (List UInt8) × (List UInt8) × (List UInt8) × (List UInt8) × (Int) × (List UInt8) × (List UInt8) × Unit) : Option ((api_Msg) × Unit) :=
  let t0 : Int := (Int.tmod s.2.2.2.1.2.2.2.2.2.1 (8 : Int))
  let t1 : Bool := (decide (((Int.tmod s.2.2.2.1.1 (6 : Int)) : Int) = (0 : Int)))
  bif t1 then
    match ref05_Value (s.2.2.2.1.2.2.1, ()) with
    | none => none
    | some r2 =>
      some (((1 : Int), (s.1, (r2.1, (([], ([], ())), ([], ([], ((IntKind.i64.wrap t0), ()))))))), ())
  else
    let t2 : Bool := (decide (((Int.tmod s.2.2.2.1.1 (6 : Int)) : Int) = (1 : Int)))
    bif t2 then
      some (((2 : Int), (s.1, ([], (([], ([], ())), ([], ([], ((0 : Int), ()))))))), ())
    else
      let t3 : Bool := (decide (((Int.tmod s.2.2.2.1.1 (6 : Int)) : Int) = (2 : Int)))
      bif t3 then
        some (((3 : Int), ([], ([], ((s.2.2.2.2.2.2.2.2.2.2.2.2.1, (s.2.2.2.2.2.2.2.2.2.2.2.2.2.1, ())), ([], ([], ((0 : Int), ()))))))), ())
      else
        let t4 : Bool := (decide (((Int.tmod s.2.2.2.1.1 (6 : Int)) : Int) = (3 : Int)))
        bif t4 then
          some (((4 : Int), ([], ([], (([], ([], ())), (s.2.1, (s.2.2.1, ((0 : Int), ()))))))), ())
        else
          let t5 : Bool := (decide (((Int.tmod s.2.2.2.1.1 (6 : Int)) : Int) = (4 : Int)))
          bif t5 then
            some (((5 : Int), ([], ([], (([], ([], ())), (s.2.1, (s.2.2.1, ((0 : Int), ()))))))), ())
          else
            some (((6 : Int), ([], ([], ((s.2.2.2.2.2.2.2.2.2.2.2.2.1, (s.2.2.2.2.2.2.2.2.2.2.2.2.2.1, ())), ([], ([], ((IntKind.i64.wrap t0), ()))))))), ())
def ref05_Made_j9 (s : (List UInt8) × (List UInt8) × (List UInt8) × (Bool) × ((Int) × (Int) × (Int) × (Int) × (Int) × (Int) × Unit) × (Int) × (List UInt8) × (List UInt8) × (List UInt8) × (List UInt8) × (List UInt8) × (List UInt8) × (Int) × (List UInt8) × (List UInt8) × Unit) : Option ((api_Msg) × Unit) :=
  bif s.2.2.2.1 then
    let t0 : Bool := (decide ((s.2.1 : List UInt8) = ([100, 47] : List UInt8)))
    bif t0 then
      ref05_Made_j8 (s.1, s.2.1, ([99, 47] : List UInt8), s.2.2.2.2.1, s.2.2.2.2.2.1, s.2.2.2.2.2.2.1, s.2.2.2.2.2.2.2.1, s.2.2.2.2.2.2.2.2.1, s.2.2.2.2.2.2.2.2.2.1, s.2.2.2.2.2.2.2.2.2.2.1, s.2.2.2.2.2.2.2.2.2.2.2.1, s.2.2.2.2.2.2.2.2.2.2.2.2.1, s.2.2.2.2.2.2.2.2.2.2.2.2.2.1, s.2.2.2.2.2.2.2.2.2.2.2.2.2.2.1, ())
    else
      ref05_Made_j8 (s.1, s.2.1, ([100, 47] : List UInt8), s.2.2.2.2.1, s.2.2.2.2.2.1, s.2.2.2.2.2.2.1, s.2.2.2.2.2.2.2.1, s.2.2.2.2.2.2.2.2.1, s.2.2.2.2.2.2.2.2.2.1, s.2.2.2.2.2.2.2.2.2.2.1, s.2.2.2.2.2.2.2.2.2.2.2.1, s.2.2.2.2.2.2.2.2.2.2.2.2.1, s.2.2.2.2.2.2.2.2.2.2.2.2.2.1, s.2.2.2.2.2.2.2.2.2.2.2.2.2.2.1, ())
  else
    ref05_Made_j8 (s.1, s.2.1, s.2.2.1, s.2.2.2.2.1, s.2.2.2.2.2.1, s.2.2.2.2.2.2.1, s.2.2.2.2.2.2.2.1, s.2.2.2.2.2.2.2.2.1, s.2.2.2.2.2.2.2.2.2.1, s.2.2.2.2.2.2.2.2.2.2.1, s.2.2.2.2.2.2.2.2.2.2.2.1, s.2.2.2.2.2.2.2.2.2.2.2.2.1, s.2.2.2.2.2.2.2.2.2.2.2.2.2.1, s.2.2.2.2.2.2.2.2.2.2.2.2.2.2.1, ())

def ref05_Made (s : ((Int) × (Int) × (Int) × (Int) × (Int) × (Int) × Unit) × Unit) : Option ((api_Msg) × Unit) :=
  match ref05_Key (s.1.2.1, ()) with
  | none => none
  | some r0 =>
    match ref05_Key (s.1.2.2.2.1, ()) with
    | none => none
    | some r1 =>
      let t2 : List UInt8 := (bif (Op.bytesLess r0.1 r1.1 || decide ((r0.1 : List UInt8) = r1.1)) then r0.1 else r1.1)
      let t3 : List UInt8 := (bif !(Op.bytesLess r0.1 r1.1) then r0.1 else r1.1)
      let t4 : Bool := (decide (((Int.tmod s.1.2.2.2.2.1 (4 : Int)) : Int) = (0 : Int)))
      bif t4 then
        match ref05_Path (s.1.2.1, ()) with
        | none => none
        | some r5 =>
          match ref02_Prefix (r5.1, ()) with
          | none => none
          | some r6 =>
            match ref05_Path (s.1.2.1, ()) with
            | none => none
            | some r7 =>
              match ref05_Path (s.1.2.2.2.1, ()) with
              | none => none
              | some r8 =>
                match ref02_Begins (r7.1, r8.1, ()) with
                | none => none
                | some r9 =>
                  bif (!r9.1) then
                    match ref02_Begins (r8.1, r7.1, ()) with
                    | none => none
                    | some r10 =>
                      ref05_Made_j1 (r0.1, r7.1, r8.1, r10.1, s.1, (0 : Int), [], [], [], [], [], [], (0 : Int), r6.1, ())
                  else
                    ref05_Made_j1 (r0.1, r7.1, r8.1, true, s.1, (0 : Int), [], [], [], [], [], [], (0 : Int), r6.1, ())
      else
        let t5 : Bool := (decide (((Int.tmod s.1.2.2.2.2.1 (16 : Int)) : Int) = (1 : Int)))
        bif t5 then
          match ref05_Path (s.1.2.1, ()) with
          | none => none
          | some r6 =>
            match ref05_Path (s.1.2.2.2.1, ()) with
            | none => none
            | some r7 =>
              match ref02_Begins (r6.1, r7.1, ()) with
              | none => none
              | some r8 =>
                bif (!r8.1) then
                  match ref02_Begins (r7.1, r6.1, ()) with
                  | none => none
                  | some r9 =>
                    ref05_Made_j3 (r0.1, r6.1, r7.1, r9.1, s.1, (0 : Int), [], [], [], [], [], [], (0 : Int), r0.1, [], ())
                else
                  ref05_Made_j3 (r0.1, r6.1, r7.1, true, s.1, (0 : Int), [], [], [], [], [], [], (0 : Int), r0.1, [], ())
        else
          let t6 : Bool := (decide (((Int.tmod s.1.2.2.2.2.1 (16 : Int)) : Int) = (5 : Int)))
          bif t6 then
            match ref05_Path (s.1.2.1, ()) with
            | none => none
            | some r7 =>
              match ref05_Path (s.1.2.2.2.1, ()) with
              | none => none
              | some r8 =>
                match ref02_Begins (r7.1, r8.1, ()) with
                | none => none
                | some r9 =>
                  bif (!r9.1) then
                    match ref02_Begins (r8.1, r7.1, ()) with
                    | none => none
                    | some r10 =>
                      ref05_Made_j5 (r0.1, r7.1, r8.1, r10.1, s.1, (0 : Int), [], [], [], [], [], [], (0 : Int), [], [], ())
                  else
                    ref05_Made_j5 (r0.1, r7.1, r8.1, true, s.1, (0 : Int), [], [], [], [], [], [], (0 : Int), [], [], ())
          else
            bif (decide ((r0.1 : List UInt8) = r1.1)) then
              match ref02_One (r0.1, ()) with
              | none => none
              | some r7 =>
                match ref05_Path (s.1.2.1, ()) with
                | none => none
                | some r8 =>
                  match ref05_Path (s.1.2.2.2.1, ()) with
                  | none => none
                  | some r9 =>
                    match ref02_Begins (r8.1, r9.1, ()) with
                    | none => none
                    | some r10 =>
                      bif (!r10.1) then
                        match ref02_Begins (r9.1, r8.1, ()) with
                        | none => none
                        | some r11 =>
                          ref05_Made_j7 (r0.1, r8.1, r9.1, r11.1, s.1, (0 : Int), [], [], [], [], [], [], (0 : Int), r7.1, ())
                      else
                        ref05_Made_j7 (r0.1, r8.1, r9.1, true, s.1, (0 : Int), [], [], [], [], [], [], (0 : Int), r7.1, ())
            else
              match ref05_Path (s.1.2.1, ()) with
              | none => none
              | some r7 =>
                match ref05_Path (s.1.2.2.2.1, ()) with
                | none => none
                | some r8 =>
                  match ref02_Begins (r7.1, r8.1, ()) with
                  | none => none
                  | some r9 =>
                    bif (!r9.1) then
                      match ref02_Begins (r8.1, r7.1, ()) with
                      | none => none
                      | some r10 =>
                        ref05_Made_j9 (r0.1, r7.1, r8.1, r10.1, s.1, (0 : Int), [], [], [], [], [], [], (0 : Int), t2, t3, ())
                    else
                      ref05_Made_j9 (r0.1, r7.1, r8.1, true, s.1, (0 : Int), [], [], [], [], [], [], (0 : Int), t2, t3, ())
/-! downspout/downspoutref05.List -/
def ref05_List_b0_j0 (s : (List ((Int) × (Int) × (Int) × (Int) × (Int) × (Int) × Unit)) × (Int) × (Int) × (Bool) × (List (api_Msg)) × Unit) : Option (((List ((Int) × (Int) × (Int) × (Int) × (Int) × (Int) × Unit)) × (Int) × (Int) × (List (api_Msg)) × Unit) ⊕ (((List (api_Msg)) × Unit) ⊕ (Unit))) :=
  bif s.2.2.2.1 then
    bif (decide ((0 : Int) ≤ s.2.2.1) && decide ((s.2.2.1 : Int) < (List.length s.1 : Int))) then
      let t0 : (Int) × (Int) × (Int) × (Int) × (Int) × (Int) × Unit := (List.getD s.1 (Int.toNat s.2.2.1) ((0 : Int), ((0 : Int), ((0 : Int), ((0 : Int), ((0 : Int), ((0 : Int), ())))))))
      match ref05_Made (t0, ()) with
      | none => none
      | some r1 =>
        bif (decide ((List.length s.2.2.2.2.1 + List.length ([r1.1] : List (api_Msg))) * 112 ≤ roomMax)) then
          let t2 : List (api_Msg) := (s.2.2.2.2.1 ++ ([r1.1] : List (api_Msg)))
          some (.inl (s.1, s.2.1, (IntKind.i64.wrap (s.2.2.1 + (1 : Int))), t2, ()))
        else
          none
    else
      none
  else
    some (.inr (.inl (s.2.2.2.2.1, ())))

def ref05_List_b0 (s : (List ((Int) × (Int) × (Int) × (Int) × (Int) × (Int) × Unit)) × (Int) × (Int) × (List (api_Msg)) × Unit) : Option (((List ((Int) × (Int) × (Int) × (Int) × (Int) × (Int) × Unit)) × (Int) × (Int) × (List (api_Msg)) × Unit) ⊕ (((List (api_Msg)) × Unit) ⊕ (Unit))) :=
  let t0 : Bool := (decide ((s.2.2.1 : Int) < ((List.length s.1) : Int)))
  bif t0 then
    ref05_List_b0_j0 (s.1, s.2.1, s.2.2.1, (decide ((s.2.2.1 : Int) < s.2.1)), s.2.2.2.1, ())
  else
    ref05_List_b0_j0 (s.1, s.2.1, s.2.2.1, false, s.2.2.2.1, ())
def ref05_List_l0 (s : (List ((Int) × (Int) × (Int) × (Int) × (Int) × (Int) × Unit)) × (Int) × (Int) × (List (api_Msg)) × Unit) : Option (((List (api_Msg)) × Unit) ⊕ (Unit)) := loopO ref05_List_b0 s
def ref05_List (s : (List ((Int) × (Int) × (Int) × (Int) × (Int) × (Int) × Unit)) × (Int) × Unit) : Option ((List (api_Msg)) × Unit) :=
  match ref05_List_l0 (s.1, s.2.1, (0 : Int), ([] : List (api_Msg)), ()) with
  | none => none
  | some (.inl z0) =>
    some (z0.1, ())
  | some (.inr z0) =>
    none
/-! downspout/downspoutref10.Made -/
def ref10_Made_b0 (s : (Int) × (ref10_Raw) × (List (api_Pair)) × (List (List UInt8)) × (List (Int)) × (List (api_Sum)) × (List (api_Msg)) × (List (List UInt8)) × Unit) : Option (((Int) × (ref10_Raw) × (List (api_Pair)) × (List (List UInt8)) × (List (Int)) × (List (api_Sum)) × (List (api_Msg)) × (List (List UInt8)) × Unit) ⊕ (((ref10_Raw) × (List (api_Pair)) × (List (List UInt8)) × (List (Int)) × (List (api_Sum)) × (List (api_Msg)) × (List (List UInt8)) × Unit) ⊕ (Unit))) :=
  let t0 : Bool := (decide ((s.1 : Int) < ((List.length s.2.1.2.2.1) : Int)))
  bif t0 then
    bif (decide ((0 : Int) ≤ s.1) && decide ((s.1 : Int) < (List.length s.2.1.2.2.1 : Int))) then
      let t1 : Int := (List.getD s.2.1.2.2.1 (Int.toNat s.1) (0 : Int))
      match ref04_Key (t1, ()) with
      | none => none
      | some r2 =>
        bif (decide ((List.length s.2.2.2.2.2.2.2.1 + List.length ([r2.1] : List (List UInt8))) * 16 ≤ roomMax)) then
          let t3 : List (List UInt8) := (s.2.2.2.2.2.2.2.1 ++ ([r2.1] : List (List UInt8)))
          some (.inl ((IntKind.i64.wrap (s.1 + (1 : Int))), s.2.1, s.2.2.1, s.2.2.2.1, s.2.2.2.2.1, s.2.2.2.2.2.1, s.2.2.2.2.2.2.1, t3, ()))
        else
          none
    else
      none
  else
    some (.inr (.inl (s.2.1, s.2.2.1, s.2.2.2.1, s.2.2.2.2.1, s.2.2.2.2.2.1, s.2.2.2.2.2.2.1, s.2.2.2.2.2.2.2.1, ())))
def ref10_Made_l0 (s : (Int) × (ref10_Raw) × (List (api_Pair)) × (List (List UInt8)) × (List (Int)) × (List (api_Sum)) × (List (api_Msg)) × (List (List UInt8)) × Unit) : Option (((ref10_Raw) × (List (api_Pair)) × (List (List UInt8)) × (List (Int)) × (List (api_Sum)) × (List (api_Msg)) × (List (List UInt8)) × Unit) ⊕ (Unit)) := loopO ref10_Made_b0 s
def ref10_Made_b1_j0 (s : (Int) × (ref10_Raw) × (List (api_Pair)) × (List (List UInt8)) × (List (Int)) × (List (api_Sum)) × (List (api_Msg)) × (List (api_Pair)) × (List (List UInt8)) × (List (api_Msg)) × (Int) × (Int) × (Int) × (Int) × (List (Int)) × (List (api_Sum)) × Unit) : Option (((Int) × (ref10_Raw) × (List (api_Pair)) × (List (List UInt8)) × (List (Int)) × (List (api_Sum)) × (List (api_Msg)) × (List (api_Pair)) × (List (List UInt8)) × (List (api_Msg)) × (List (Int)) × (List (api_Sum)) × Unit) ⊕ (((List (api_Pair)) × (List (List UInt8)) × (List (Int)) × (List (api_Sum)) × (List (api_Msg)) × (List (api_Pair)) × (List (List UInt8)) × (List (api_Msg)) × (List (Int)) × (List (api_Sum)) × Unit) ⊕ (Unit))) :=
  bif (decide ((0 : Int) ≤ s.1) && decide ((s.1 : Int) < (List.length s.2.1.2.1 : Int))) then
    let t0 : Int := (List.getD s.2.1.2.1 (Int.toNat s.1) (0 : Int))
    bif (decide ((List.length s.2.2.2.2.2.2.2.2.2.2.2.2.2.2.1 + List.length ([(IntKind.i64.wrap t0)] : List (Int))) * 8 ≤ roomMax)) then
      let t1 : List (Int) := (s.2.2.2.2.2.2.2.2.2.2.2.2.2.2.1 ++ ([(IntKind.i64.wrap t0)] : List (Int)))
      bif (decide ((List.length s.2.2.2.2.2.2.2.2.2.2.2.2.2.2.2.1 + List.length ([((s.2.2.2.2.2.2.2.2.2.2.1, (s.2.2.2.2.2.2.2.2.2.2.2.1, ())), ((s.2.2.2.2.2.2.2.2.2.2.2.2.1, (s.2.2.2.2.2.2.2.2.2.2.2.2.2.1, ())), ()))] : List (api_Sum))) * 32 ≤ roomMax)) then
        let t2 : List (api_Sum) := (s.2.2.2.2.2.2.2.2.2.2.2.2.2.2.2.1 ++ ([((s.2.2.2.2.2.2.2.2.2.2.1, (s.2.2.2.2.2.2.2.2.2.2.2.1, ())), ((s.2.2.2.2.2.2.2.2.2.2.2.2.1, (s.2.2.2.2.2.2.2.2.2.2.2.2.2.1, ())), ()))] : List (api_Sum)))
        some (.inl ((IntKind.i64.wrap (s.1 + (1 : Int))), s.2.1, s.2.2.1, s.2.2.2.1, s.2.2.2.2.1, s.2.2.2.2.2.1, s.2.2.2.2.2.2.1, s.2.2.2.2.2.2.2.1, s.2.2.2.2.2.2.2.2.1, s.2.2.2.2.2.2.2.2.2.1, t1, t2, ()))
      else
        none
    else
      none
  else
    none

def ref10_Made_b1 (s : (Int) × (ref10_Raw) × (List (api_Pair)) × (List (List UInt8)) × (List (Int)) × (List (api_Sum)) × (List (api_Msg)) × (List (api_Pair)) × (List (List UInt8)) × (List (api_Msg)) × (List (Int)) × (List (api_Sum)) × Unit) : Option (((Int) × (ref10_Raw) × (List (api_Pair)) × (List (List UInt8)) × (List (Int)) × (List (api_Sum)) × (List (api_Msg)) × (List (api_Pair)) × (List (List UInt8)) × (List (api_Msg)) × (List (Int)) × (List (api_Sum)) × Unit) ⊕ (((List (api_Pair)) × (List (List UInt8)) × (List (Int)) × (List (api_Sum)) × (List (api_Msg)) × (List (api_Pair)) × (List (List UInt8)) × (List (api_Msg)) × (List (Int)) × (List (api_Sum)) × Unit) ⊕ (Unit))) :=
  let t0 : Int := ((List.length s.2.2.2.2.2.2.2.2.1) : Int)
  bif (decide ((s.1 : Int) ≤ t0)) then
    let t1 : Bool := (decide ((s.1 : Int) < ((List.length s.2.1.2.2.2.1) : Int)))
    bif t1 then
      bif (decide ((0 : Int) ≤ s.1) && decide ((s.1 : Int) < (List.length s.2.1.2.2.2.1 : Int))) then
        let t2 : (Int) × (Int) × (Int) × (Int) × Unit := (List.getD s.2.1.2.2.2.1 (Int.toNat s.1) ((0 : Int), ((0 : Int), ((0 : Int), ((0 : Int), ())))))
        let t3 : Int := (IntKind.i64.wrap ((IntKind.i64.wrap t2.1) + (IntKind.i64.wrap t2.2.1)))
        let t4 : Int := (IntKind.i64.wrap ((IntKind.i64.wrap t2.2.2.1) + (IntKind.i64.wrap t2.2.2.2.1)))
        ref10_Made_b1_j0 (s.1, s.2.1, s.2.2.1, s.2.2.2.1, s.2.2.2.2.1, s.2.2.2.2.2.1, s.2.2.2.2.2.2.1, s.2.2.2.2.2.2.2.1, s.2.2.2.2.2.2.2.2.1, s.2.2.2.2.2.2.2.2.2.1, (IntKind.i64.wrap t2.1), t3, (IntKind.i64.wrap t2.2.2.1), t4, s.2.2.2.2.2.2.2.2.2.2.1, s.2.2.2.2.2.2.2.2.2.2.2.1, ())
      else
        none
    else
      ref10_Made_b1_j0 (s.1, s.2.1, s.2.2.1, s.2.2.2.1, s.2.2.2.2.1, s.2.2.2.2.2.1, s.2.2.2.2.2.2.1, s.2.2.2.2.2.2.2.1, s.2.2.2.2.2.2.2.2.1, s.2.2.2.2.2.2.2.2.2.1, (0 : Int), (0 : Int), (0 : Int), (0 : Int), s.2.2.2.2.2.2.2.2.2.2.1, s.2.2.2.2.2.2.2.2.2.2.2.1, ())
  else
    some (.inr (.inl (s.2.2.1, s.2.2.2.1, s.2.2.2.2.1, s.2.2.2.2.2.1, s.2.2.2.2.2.2.1, s.2.2.2.2.2.2.2.1, s.2.2.2.2.2.2.2.2.1, s.2.2.2.2.2.2.2.2.2.1, s.2.2.2.2.2.2.2.2.2.2.1, s.2.2.2.2.2.2.2.2.2.2.2.1, ())))
def ref10_Made_l1 (s : (Int) × (ref10_Raw) × (List (api_Pair)) × (List (List UInt8)) × (List (Int)) × (List (api_Sum)) × (List (api_Msg)) × (List (api_Pair)) × (List (List UInt8)) × (List (api_Msg)) × (List (Int)) × (List (api_Sum)) × Unit) : Option (((List (api_Pair)) × (List (List UInt8)) × (List (Int)) × (List (api_Sum)) × (List (api_Msg)) × (List (api_Pair)) × (List (List UInt8)) × (List (api_Msg)) × (List (Int)) × (List (api_Sum)) × Unit) ⊕ (Unit)) := loopO ref10_Made_b1 s
def ref10_Made (s : (ref10_Raw) × Unit) : Option ((api_Node) × Unit) :=
  let t0 : Bool := (decide ((((List.length s.1.2.1) : Int) : Int) = (0 : Int)))
  bif t0 then
    match ref04_Made (s.1.1, ()) with
    | none => none
    | some r1 =>
      some ((r1.1, ([], ([], ([], ([], ()))))), ())
  else
    match ref10_Made_l0 ((0 : Int), s.1, [], [], [], [], [], ([] : List (List UInt8)), ()) with
    | none => none
    | some (.inl z1) =>
      match ref02_Pivots (z1.2.2.2.2.2.2.1, ()) with
      | none => none
      | some r2 =>
        let t3 : Int := (if ((10 : Int) : Int) < ((List.length z1.1.2.1) : Int) then (10 : Int) else ((List.length z1.1.2.1) : Int))
        let t4 : Int := (if ((IntKind.i64.wrap (t3 - (1 : Int))) : Int) < ((List.length r2.1) : Int) then (IntKind.i64.wrap (t3 - (1 : Int))) else ((List.length r2.1) : Int))
        bif (decide (((0 : Int) : Int) ≤ t4) && decide ((t4 : Int) ≤ (List.length r2.1 : Int))) then
          let t5 : List (List UInt8) := (List.drop 0 (List.take (Int.toNat t4) r2.1))
          match ref05_List (z1.1.2.2.2.2.1, (12 : Int), ()) with
          | none => none
          | some r6 =>
            match ref10_Made_l1 ((0 : Int), z1.1, z1.2.1, z1.2.2.1, z1.2.2.2.1, z1.2.2.2.2.1, z1.2.2.2.2.2.1, [], t5, r6.1, [], [], ()) with
            | none => none
            | some (.inl z7) =>
              some ((z7.2.2.2.2.2.1, (z7.2.2.2.2.2.2.1, (z7.2.2.2.2.2.2.2.2.1, (z7.2.2.2.2.2.2.2.2.2.1, (z7.2.2.2.2.2.2.2.1, ()))))), ())
            | some (.inr z7) =>
              none
        else
          none
    | some (.inr z1) =>
      none
/-! downspout/downspoutlaw13.SplitKids -/
def law13_SplitKids_b0_j1 (s : (Bool) × (Int) × (api_Node) × (api_Shape) × (ref13_Split) × (List (api_Pair)) × (List (api_Msg)) × (List (List UInt8)) × (List (Int)) × (List (api_Sum)) × Unit) : Option (((Bool) × (Int) × (api_Node) × (api_Shape) × (ref13_Split) × (List (api_Pair)) × (List (api_Msg)) × (List (List UInt8)) × (List (Int)) × (List (api_Sum)) × Unit) ⊕ (((Bool) × Unit) ⊕ ((Bool) × (api_Node) × (List (api_Pair)) × (List (api_Msg)) × (List (List UInt8)) × (List (Int)) × (List (api_Sum)) × Unit))) :=
  bif (decide ((0 : Int) ≤ s.2.1) && decide ((s.2.1 : Int) < (List.length s.2.2.2.2.1.1 : Int))) then
    let t0 : api_Node := (List.getD s.2.2.2.2.1.1 (Int.toNat s.2.1) ([], ([], ([], ([], ([], ()))))))
    bif (decide ((List.length s.2.2.2.2.2.2.2.2.1 + List.length t0.2.2.1) * 8 ≤ roomMax)) then
      bif (decide ((0 : Int) ≤ s.2.1) && decide ((s.2.1 : Int) < (List.length s.2.2.2.2.1.1 : Int))) then
        let t1 : api_Node := (List.getD s.2.2.2.2.1.1 (Int.toNat s.2.1) ([], ([], ([], ([], ([], ()))))))
        bif (decide ((List.length s.2.2.2.2.2.2.2.2.2.1 + List.length t1.2.2.2.1) * 32 ≤ roomMax)) then
          bif (decide ((0 : Int) ≤ s.2.1) && decide ((s.2.1 : Int) < (List.length s.2.2.2.2.1.1 : Int))) then
            let t2 : api_Node := (List.getD s.2.2.2.2.1.1 (Int.toNat s.2.1) ([], ([], ([], ([], ([], ()))))))
            bif (decide ((List.length s.2.2.2.2.2.2.2.1 + List.length t2.2.1) * 16 ≤ roomMax)) then
              some (.inl (s.1, (IntKind.i64.wrap (s.2.1 + (1 : Int))), s.2.2.1, s.2.2.2.1, s.2.2.2.2.1, s.2.2.2.2.2.1, s.2.2.2.2.2.2.1, (s.2.2.2.2.2.2.2.1 ++ t2.2.1), (s.2.2.2.2.2.2.2.2.1 ++ t0.2.2.1), (s.2.2.2.2.2.2.2.2.2.1 ++ t1.2.2.2.1), ()))
            else
              none
          else
            none
        else
          none
      else
        none
    else
      none
  else
    none
def law13_SplitKids_b0_j0 (s : (Bool) × (Int) × (Bool) × (api_Node) × (api_Shape) × (ref13_Split) × (List (api_Pair)) × (List (api_Msg)) × (List (List UInt8)) × (List (Int)) × (List (api_Sum)) × Unit) : Option (((Bool) × (Int) × (api_Node) × (api_Shape) × (ref13_Split) × (List (api_Pair)) × (List (api_Msg)) × (List (List UInt8)) × (List (Int)) × (List (api_Sum)) × Unit) ⊕ (((Bool) × Unit) ⊕ ((Bool) × (api_Node) × (List (api_Pair)) × (List (api_Msg)) × (List (List UInt8)) × (List (Int)) × (List (api_Sum)) × Unit))) :=
  bif s.2.2.1 then
    some (.inr (.inl (false, ())))
  else
    bif (decide ((s.2.1 : Int) > (0 : Int))) then
      bif (decide ((0 : Int) ≤ (IntKind.i64.wrap (s.2.1 - (1 : Int)))) && decide (((IntKind.i64.wrap (s.2.1 - (1 : Int))) : Int) < (List.length s.2.2.2.2.2.1.2.1 : Int))) then
        let t0 : List UInt8 := (List.getD s.2.2.2.2.2.1.2.1 (Int.toNat (IntKind.i64.wrap (s.2.1 - (1 : Int)))) [])
        bif (decide ((List.length s.2.2.2.2.2.2.2.2.1 + List.length ([t0] : List (List UInt8))) * 16 ≤ roomMax)) then
          let t1 : List (List UInt8) := (s.2.2.2.2.2.2.2.2.1 ++ ([t0] : List (List UInt8)))
          law13_SplitKids_b0_j1 (s.1, s.2.1, s.2.2.2.1, s.2.2.2.2.1, s.2.2.2.2.2.1, s.2.2.2.2.2.2.1, s.2.2.2.2.2.2.2.1, t1, s.2.2.2.2.2.2.2.2.2.1, s.2.2.2.2.2.2.2.2.2.2.1, ())
        else
          none
      else
        none
    else
      law13_SplitKids_b0_j1 (s.1, s.2.1, s.2.2.2.1, s.2.2.2.2.1, s.2.2.2.2.2.1, s.2.2.2.2.2.2.1, s.2.2.2.2.2.2.2.1, s.2.2.2.2.2.2.2.2.1, s.2.2.2.2.2.2.2.2.2.1, s.2.2.2.2.2.2.2.2.2.2.1, ())

def law13_SplitKids_b0 (s : (Bool) × (Int) × (api_Node) × (api_Shape) × (ref13_Split) × (List (api_Pair)) × (List (api_Msg)) × (List (List UInt8)) × (List (Int)) × (List (api_Sum)) × Unit) : Option (((Bool) × (Int) × (api_Node) × (api_Shape) × (ref13_Split) × (List (api_Pair)) × (List (api_Msg)) × (List (List UInt8)) × (List (Int)) × (List (api_Sum)) × Unit) ⊕ (((Bool) × Unit) ⊕ ((Bool) × (api_Node) × (List (api_Pair)) × (List (api_Msg)) × (List (List UInt8)) × (List (Int)) × (List (api_Sum)) × Unit))) :=
  let t0 : Bool := (decide ((s.2.1 : Int) < ((List.length s.2.2.2.2.1.1) : Int)))
  bif t0 then
    bif (decide ((0 : Int) ≤ s.2.1) && decide ((s.2.1 : Int) < (List.length s.2.2.2.2.1.1 : Int))) then
      let t1 : api_Node := (List.getD s.2.2.2.2.1.1 (Int.toNat s.2.1) ([], ([], ([], ([], ([], ()))))))
      let t2 : Bool := (decide ((((List.length t1.2.2.1) : Int) : Int) = (0 : Int)))
      bif (!t2) then
        bif (decide ((0 : Int) ≤ s.2.1) && decide ((s.2.1 : Int) < (List.length s.2.2.2.2.1.1 : Int))) then
          let t3 : api_Node := (List.getD s.2.2.2.2.1.1 (Int.toNat s.2.1) ([], ([], ([], ([], ([], ()))))))
          let t4 : Bool := (decide ((((List.length t3.2.2.1) : Int) : Int) > s.2.2.2.1.2.1))
          bif (!t4) then
            bif (decide ((0 : Int) ≤ s.2.1) && decide ((s.2.1 : Int) < (List.length s.2.2.2.2.1.1 : Int))) then
              let t5 : api_Node := (List.getD s.2.2.2.2.1.1 (Int.toNat s.2.1) ([], ([], ([], ([], ([], ()))))))
              let t6 : Bool := (decide ((((List.length t5.2.2.2.2.1) : Int) : Int) > (0 : Int)))
              bif (!t6) then
                bif (decide ((0 : Int) ≤ s.2.1) && decide ((s.2.1 : Int) < (List.length s.2.2.2.2.1.1 : Int))) then
                  let t7 : api_Node := (List.getD s.2.2.2.2.1.1 (Int.toNat s.2.1) ([], ([], ([], ([], ([], ()))))))
                  let t8 : Bool := (decide ((((List.length t7.1) : Int) : Int) > (0 : Int)))
                  law13_SplitKids_b0_j0 (s.1, s.2.1, t8, s.2.2.1, s.2.2.2.1, s.2.2.2.2.1, s.2.2.2.2.2.1, s.2.2.2.2.2.2.1, s.2.2.2.2.2.2.2.1, s.2.2.2.2.2.2.2.2.1, s.2.2.2.2.2.2.2.2.2.1, ())
                else
                  none
              else
                law13_SplitKids_b0_j0 (s.1, s.2.1, true, s.2.2.1, s.2.2.2.1, s.2.2.2.2.1, s.2.2.2.2.2.1, s.2.2.2.2.2.2.1, s.2.2.2.2.2.2.2.1, s.2.2.2.2.2.2.2.2.1, s.2.2.2.2.2.2.2.2.2.1, ())
            else
              none
          else
            law13_SplitKids_b0_j0 (s.1, s.2.1, true, s.2.2.1, s.2.2.2.1, s.2.2.2.2.1, s.2.2.2.2.2.1, s.2.2.2.2.2.2.1, s.2.2.2.2.2.2.2.1, s.2.2.2.2.2.2.2.2.1, s.2.2.2.2.2.2.2.2.2.1, ())
        else
          none
      else
        law13_SplitKids_b0_j0 (s.1, s.2.1, true, s.2.2.1, s.2.2.2.1, s.2.2.2.2.1, s.2.2.2.2.2.1, s.2.2.2.2.2.2.1, s.2.2.2.2.2.2.2.1, s.2.2.2.2.2.2.2.2.1, s.2.2.2.2.2.2.2.2.2.1, ())
    else
      none
  else
    some (.inr (.inr (s.1, s.2.2.1, s.2.2.2.2.2.1, s.2.2.2.2.2.2.1, s.2.2.2.2.2.2.2.1, s.2.2.2.2.2.2.2.2.1, s.2.2.2.2.2.2.2.2.2.1, ())))
def law13_SplitKids_l0 (s : (Bool) × (Int) × (api_Node) × (api_Shape) × (ref13_Split) × (List (api_Pair)) × (List (api_Msg)) × (List (List UInt8)) × (List (Int)) × (List (api_Sum)) × Unit) : Option (((Bool) × Unit) ⊕ ((Bool) × (api_Node) × (List (api_Pair)) × (List (api_Msg)) × (List (List UInt8)) × (List (Int)) × (List (api_Sum)) × Unit)) := loopO law13_SplitKids_b0 s
def law13_SplitKids (s : (ref10_Raw) × (api_Shape) × Unit) : Option ((Bool) × Unit) :=
  match law13_sanity (()) with
  | none => none
  | some r0 =>
    match ref10_Made (s.1, ()) with
    | none => none
    | some r1 =>
      match ref13_Shape (s.2.1, ()) with
      | none => none
      | some r2 =>
        let t3 : Bool := (decide ((((List.length r1.1.2.2.1) : Int) : Int) = (0 : Int)))
        bif t3 then
          some (r0.1, ())
        else
          match law13_inner (r1.1, r2.1, ()) with
          | none => none
          | some r4 =>
            let t5 : Bool := (decide ((((List.length r4.1.1) : Int) : Int) = (0 : Int)))
            bif (!t5) then
              let t6 : Bool := (decide ((((List.length r4.1.1) : Int) : Int) > ((List.length r1.1.2.2.1) : Int)))
              bif (!t6) then
                let t7 : Int := (IntKind.i64.wrap (((List.length r4.1.1) : Int) - (1 : Int)))
                let t8 : Bool := (!decide ((((List.length r4.1.2.1) : Int) : Int) = t7))
                bif (!t8) then
                  match ref05_SameMsgs (r4.1.2.2.1, r1.1.2.2.2.2.1, ()) with
                  | none => none
                  | some r9 =>
                    bif (!(!r9.1)) then
                      let t10 : Bool := (decide ((((List.length r4.1.1) : Int) : Int) = (1 : Int)))
                      let t11 : Bool := (decide ((((List.length r1.1.2.2.1) : Int) : Int) ≤ r2.1.2.1))
                      bif (!(t10 == t11)) then
                        some (false, ())
                      else
                        match law13_SplitKids_l0 (r0.1, (0 : Int), r1.1, r2.1, r4.1, [], [], [], [], [], ()) with
                        | none => none
                        | some (.inl z12) =>
                          some (z12.1, ())
                        | some (.inr z12) =>
                          match ref10_Same ((z12.2.2.1, (z12.2.2.2.2.1, (z12.2.2.2.2.2.1, (z12.2.2.2.2.2.2.1, (z12.2.1.2.2.2.2.1, ()))))), z12.2.1, ()) with
                          | none => none
                          | some r13 =>
                            bif r13.1 then
                              some (z12.1, ())
                            else
                              some (false, ())
                    else
                      some (false, ())
                else
                  some (false, ())
              else
                some (false, ())
            else
              some (false, ())


end D
