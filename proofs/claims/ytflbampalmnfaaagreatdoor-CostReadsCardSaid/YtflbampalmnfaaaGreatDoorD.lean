/- Plain functions, by program. -/
import Derived.Test.YtflbampalmnfaaaGreatDoorXD
set_option linter.unusedVariables false
open Go Go.X
namespace D
abbrev api_Bill : Type := (Int) × (Int) × Unit
abbrev runtime_errorAddressString : Type := (List UInt8) × (Int) × Unit
abbrev api_Shape : Type := (Int) × (Int) × (Int) × Unit
abbrev cost_bill : Type := (api_Bill) × Unit
abbrev api_Span : Type := (List UInt8) × (List UInt8) × Unit
abbrev api_Pair : Type := (List UInt8) × (List UInt8) × (Int) × Unit
abbrev api_Place : Type := (List UInt8) × (Int) × (Int) × (List UInt8) × Unit
abbrev api_Sum : Type := (api_Bill) × (api_Bill) × Unit
abbrev ref12_Got : Type := (api_Pair) × (Bool) × (Int) × (Int) × Unit
abbrev api_Found : Type := (Bool) × (Bool) × (api_Pair) × (List UInt8) × (Bool) × (Int) × Unit
abbrev api_Msg : Type := (Int) × (List UInt8) × (List UInt8) × (api_Span) × (List UInt8) × (List UInt8) × (Int) × Unit
abbrev api_Node : Type := (List (api_Pair)) × (List (List UInt8)) × (List (Int)) × (List (api_Sum)) × (List (api_Msg)) × Unit
abbrev ref12_Raw : Type := (List (api_Shape)) × ((List ((Int) × (Int) × (Int) × (Int) × (Int) × (Int) × Unit)) × (List ((Int) × (Int) × (Int) × (Int) × (Int) × (Int) × Unit)) × (List ((Int) × (Int) × (Int) × (Int) × (Int) × (Int) × Unit)) × (List ((Int) × (Int) × (Int) × (Int) × (Int) × (Int) × Unit)) × Unit) × (Int) × Unit
abbrev api_Slot : Type := (Bool) × (Bool) × (Int) × (api_Node) × Unit
abbrev api_Pool : Type := (List (api_Slot)) × Unit
abbrev ref12_built : Type := (api_Pool) × (Int) × Unit
abbrev ref11_Added : Type := (api_Pool) × (Int) × (Int) × Unit
abbrev api_Tree : Type := (api_Pool) × (Int) × (api_Shape) × Unit
@[reducible] def tapi_Bill : Ty := (.pair (.int .i64) (.pair (.int .i64) .unit))
@[reducible] def truntime_errorAddressString : Ty := (.pair .str (.pair (.int .u64) .unit))
@[reducible] def tapi_Shape : Ty := (.pair (.int .i64) tapi_Bill)
@[reducible] def tcost_bill : Ty := (.pair tapi_Bill .unit)
@[reducible] def tapi_Span : Ty := (.pair .str (.pair .str .unit))
@[reducible] def tapi_Pair : Ty := (.pair .str (.pair .str (.pair (.int .i64) .unit)))
@[reducible] def tapi_Place : Ty := (.pair .str (.pair (.int .i64) (.pair (.int .i64) (.pair .str .unit))))
@[reducible] def tapi_Sum : Ty := (.pair tapi_Bill tcost_bill)
@[reducible] def tref12_Got : Ty := (.pair tapi_Pair (.pair .bool tapi_Bill))
@[reducible] def tapi_Found : Ty := (.pair .bool (.pair .bool (.pair tapi_Pair (.pair .str (.pair .bool (.pair (.int .i64) .unit))))))
@[reducible] def tapi_Msg : Ty := (.pair (.int .i64) (.pair .str (.pair .str (.pair tapi_Span tapi_Pair))))
@[reducible] def tapi_Node : Ty := (.pair (.list tapi_Pair) (.pair (.list .str) (.pair (.list (.int .i64)) (.pair (.list tapi_Sum) (.pair (.list tapi_Msg) .unit)))))
@[reducible] def tref12_Raw : Ty := (.pair (.list (.pair (.int .u8) (.pair (.int .u8) (.pair (.int .u8) .unit)))) (.pair (.pair (.list (.pair (.int .u8) (.pair (.int .u8) (.pair (.int .u8) (.pair (.int .u8) (.pair (.int .u8) (.pair (.int .u8) .unit))))))) (.pair (.list (.pair (.int .u8) (.pair (.int .u8) (.pair (.int .u8) (.pair (.int .u8) (.pair (.int .u8) (.pair (.int .u8) .unit))))))) (.pair (.list (.pair (.int .u8) (.pair (.int .u8) (.pair (.int .u8) (.pair (.int .u8) (.pair (.int .u8) (.pair (.int .u8) .unit))))))) (.pair (.list (.pair (.int .u8) (.pair (.int .u8) (.pair (.int .u8) (.pair (.int .u8) (.pair (.int .u8) (.pair (.int .u8) .unit))))))) .unit)))) (.pair (.int .u8) .unit)))
@[reducible] def tapi_Slot : Ty := (.pair .bool (.pair .bool (.pair (.int .i64) (.pair tapi_Node .unit))))
@[reducible] def tapi_Pool : Ty := (.pair (.list tapi_Slot) .unit)
@[reducible] def tref12_built : Ty := (.pair tapi_Pool (.pair (.int .i64) .unit))
@[reducible] def tref11_Added : Ty := (.pair tapi_Pool tapi_Bill)
@[reducible] def tapi_Tree : Ty := (.pair tapi_Pool (.pair (.int .i64) (.pair tapi_Shape .unit)))
def ref02_Less (s : api_Span) : Option ((Bool) × Unit) :=
 let t0 : Bool := (!decide ((s.1 : List UInt8) = ([] : List UInt8)))
 bif t0 then
  let t1 : Bool := (decide ((s.2.1 : List UInt8) = ([] : List UInt8)))
  bif (!t1) then
   some ((Op.bytesLess s.1 s.2.1), ())
  else
   some (true, ())
 else
  some (false, ())
def ref02_Empty (s : (api_Span) × Unit) : Option ((Bool) × Unit) :=
 let t0 : Bool := (!decide ((s.1.2.1 : List UInt8) = ([] : List UInt8)))
 bif t0 then
  let t1 : Bool := (Op.bytesLess s.1.2.1 s.1.1 || decide ((s.1.2.1 : List UInt8) = s.1.1))
  some (t1, ())
 else
  some (false, ())
def ref02_None (s : Unit) : Option ((api_Span) × Unit) :=
 some ((([97] : List UInt8), (([97] : List UInt8), ())), ())
def ref02_Meet_j0 (s : (List UInt8) × (List UInt8) × (List UInt8) × (List UInt8) × Unit) : Option ((api_Span) × Unit) :=
 match ref02_Empty ((s.2.2.1, (s.2.2.2.1, ())), ()) with
 | none => none
 | some r0 =>
  bif r0.1 then
   match ref02_None (()) with
   | none => none
   | some r1 =>
    some (r1.1, ())
  else
   some ((s.2.2.1, (s.2.2.2.1, ())), ())

def ref02_Meet (s : (api_Span) × (api_Span) × Unit) : Option ((api_Span) × Unit) :=
 let t0 : List UInt8 := (bif !(Op.bytesLess s.1.1 s.2.1.1) then s.1.1 else s.2.1.1)
 match ref02_Less (s.2.1.2.1, s.1.2.1, ()) with
 | none => none
 | some r1 =>
  bif r1.1 then
   ref02_Meet_j0 (([] : List UInt8), ([] : List UInt8), t0, s.2.1.2.1, ())
  else
   ref02_Meet_j0 (([] : List UInt8), ([] : List UInt8), t0, s.1.2.1, ())
def ref02_Parts_b0 (s : (List (List UInt8)) × (List UInt8) × (Int) × (api_Span) × (List (api_Span)) × Unit) : Option (((List (List UInt8)) × (List UInt8) × (Int) × (api_Span) × (List (api_Span)) × Unit) ⊕ (((List UInt8) × (api_Span) × (List (api_Span)) × Unit) ⊕ (Unit))) :=
 let t0 : Bool := (decide ((s.2.2.1 : Int) < ((List.length s.1) : Int)))
 bif t0 then
  bif (decide ((0 : Int) ≤ s.2.2.1) && decide ((s.2.2.1 : Int) < (List.length s.1 : Int))) then
   let t1 : List UInt8 := (List.getD s.1 (Int.toNat s.2.2.1) ([] : List UInt8))
   match ref02_Meet (s.2.2.2.1, (s.2.1, (t1, ())), ()) with
   | none => none
   | some r2 =>
    bif (decide ((List.length s.2.2.2.2.1 + List.length ([r2.1] : List (api_Span))) * 32 ≤ roomMax)) then
     let t3 : List (api_Span) := (s.2.2.2.2.1 ++ ([r2.1] : List (api_Span)))
     bif (decide ((0 : Int) ≤ s.2.2.1) && decide ((s.2.2.1 : Int) < (List.length s.1 : Int))) then
      let t4 : List UInt8 := (List.getD s.1 (Int.toNat s.2.2.1) ([] : List UInt8))
      some (.inl (s.1, t4, (IntKind.i64.wrap (s.2.2.1 + (1 : Int))), s.2.2.2.1, t3, ()))
     else
      none
    else
     none
  else
   none
 else
  some (.inr (.inl (s.2.1, s.2.2.2.1, s.2.2.2.2.1, ())))
def ref02_Parts_l0 (s : (List (List UInt8)) × (List UInt8) × (Int) × (api_Span) × (List (api_Span)) × Unit) : Option (((List UInt8) × (api_Span) × (List (api_Span)) × Unit) ⊕ (Unit)) := loopO (ref02_Parts_b0) s
def ref02_Parts (s : (api_Span) × (List (List UInt8)) × Unit) : Option ((List (api_Span)) × Unit) :=
 match ref02_Parts_l0 (s.2.1, ([] : List UInt8), (0 : Int), s.1, ([] : List (api_Span)), ()) with
 | none => none
 | some (.inl z0) =>
  match ref02_Meet (z0.2.1, (z0.1, (([] : List UInt8), ())), ()) with
  | none => none
  | some r1 =>
   bif (decide ((List.length z0.2.2.1 + List.length ([r1.1] : List (api_Span))) * 32 ≤ roomMax)) then
    let t2 : List (api_Span) := (z0.2.2.1 ++ ([r1.1] : List (api_Span)))
    some (t2, ())
   else
    none
 | some (.inr z0) =>
  none
def ref10_Spans (s : (api_Node) × (api_Span) × Unit) : Option ((List (api_Span)) × Unit) :=
 let t0 : Bool := (decide ((((List.length s.1.2.2.1) : Int) : Int) = (0 : Int)))
 bif t0 then
  some (([] : List (api_Span)), ())
 else
  match ref02_Parts (s.2.1, s.1.2.1, ()) with
  | none => none
  | some r1 =>
   some (r1.1, ())
def ref04_Has (s : (api_Span) × (List UInt8) × Unit) : Option ((Bool) × Unit) :=
 bif (!(Op.bytesLess s.2.1 s.1.1)) then
  let t0 : Bool := (decide ((s.1.2.1 : List UInt8) = ([] : List UInt8)))
  bif (!t0) then
   some ((Op.bytesLess s.2.1 s.1.2.1), ())
  else
   some (true, ())
 else
  some (false, ())
def ref04_Range_b0 (s : (List (api_Pair)) × (Int) × (api_Span) × (List (api_Pair)) × Unit) : Option (((List (api_Pair)) × (Int) × (api_Span) × (List (api_Pair)) × Unit) ⊕ (((List (api_Pair)) × Unit) ⊕ (Unit))) :=
 let t0 : Bool := (decide ((s.2.1 : Int) < ((List.length s.1) : Int)))
 bif t0 then
  bif (decide ((0 : Int) ≤ s.2.1) && decide ((s.2.1 : Int) < (List.length s.1 : Int))) then
   let t1 : api_Pair := (List.getD s.1 (Int.toNat s.2.1) (([] : List UInt8), (([] : List UInt8), ((0 : Int), ()))))
   match ref04_Has (s.2.2.1, t1.1, ()) with
   | none => none
   | some r2 =>
    bif r2.1 then
     bif (decide ((0 : Int) ≤ s.2.1) && decide ((s.2.1 : Int) < (List.length s.1 : Int))) then
      let t3 : api_Pair := (List.getD s.1 (Int.toNat s.2.1) (([] : List UInt8), (([] : List UInt8), ((0 : Int), ()))))
      bif (decide ((List.length s.2.2.2.1 + List.length ([t3] : List (api_Pair))) * 40 ≤ roomMax)) then
       let t4 : List (api_Pair) := (s.2.2.2.1 ++ ([t3] : List (api_Pair)))
       some (.inl (s.1, (IntKind.i64.wrap (s.2.1 + (1 : Int))), s.2.2.1, t4, ()))
      else
       none
     else
      none
    else
     some (.inl (s.1, (IntKind.i64.wrap (s.2.1 + (1 : Int))), s.2.2.1, s.2.2.2.1, ()))
  else
   none
 else
  some (.inr (.inl (s.2.2.2.1, ())))
def ref04_Range_l0 (s : (List (api_Pair)) × (Int) × (api_Span) × (List (api_Pair)) × Unit) : Option (((List (api_Pair)) × Unit) ⊕ (Unit)) := loopO (ref04_Range_b0) s
def ref04_Range (s : (List (api_Pair)) × (api_Span) × Unit) : Option ((List (api_Pair)) × Unit) :=
 match ref04_Range_l0 (s.1, (0 : Int), s.2.1, ([] : List (api_Pair)), ()) with
 | none => none
 | some (.inl z0) =>
  some (z0.1, ())
 | some (.inr z0) =>
  none
def ref11_Used (s : ref12_built) : Option ((Bool) × Unit) :=
 bif (decide ((s.2.1 : Int) ≥ (0 : Int))) then
  let t0 : Bool := (decide ((s.2.1 : Int) < ((List.length s.1.1) : Int)))
  bif t0 then
   bif (decide ((0 : Int) ≤ s.2.1) && decide ((s.2.1 : Int) < (List.length s.1.1 : Int))) then
    let t1 : api_Slot := (List.getD s.1.1 (Int.toNat s.2.1) (false, (false, ((0 : Int), ((([] : List (api_Pair)), (([] : List (List UInt8)), (([] : List (Int)), (([] : List (api_Sum)), (([] : List (api_Msg)), ()))))), ())))))
    some (t1.1, ())
   else
    none
  else
   some (false, ())
 else
  some (false, ())
def ref11_Copied (s : (api_Pool) × Unit) : Option (api_Pool) :=
 bif (decide ((List.length ([] : List (api_Slot)) + List.length s.1.1) * 136 ≤ roomMax)) then
  let t0 : List (api_Slot) := (([] : List (api_Slot)) ++ s.1.1)
  some (t0, ())
 else
  none
def ref11_Add_b0 (s : (Int) × (api_Pool) × (api_Node) × (List (api_Slot)) × (Int) × (Int) × Unit) : Option (((Int) × (api_Pool) × (api_Node) × (List (api_Slot)) × (Int) × (Int) × Unit) ⊕ ((ref11_Added) ⊕ ((api_Pool) × (api_Node) × (List (api_Slot)) × (Int) × (Int) × Unit))) :=
 let t0 : Bool := (decide ((s.1 : Int) < ((List.length s.2.2.1.2.2.1) : Int)))
 bif t0 then
  bif (decide ((0 : Int) ≤ s.1) && decide ((s.1 : Int) < (List.length s.2.2.1.2.2.1 : Int))) then
   let t1 : Int := (List.getD s.2.2.1.2.2.1 (Int.toNat s.1) (0 : Int))
   match ref11_Used (s.2.1, t1, ()) with
   | none => none
   | some r2 =>
    bif (!r2.1) then
     some (.inr (.inl (s.2.1, (0 : Int), (110 : Int), ())))
    else
     some (.inl ((IntKind.i64.wrap (s.1 + (1 : Int))), s.2.1, s.2.2.1, s.2.2.2.1, s.2.2.2.2.1, s.2.2.2.2.2.1, ()))
  else
   none
 else
  some (.inr (.inr (s.2.1, s.2.2.1, s.2.2.2.1, s.2.2.2.2.1, s.2.2.2.2.2.1, ())))
def ref11_Add_l0 (s : (Int) × (api_Pool) × (api_Node) × (List (api_Slot)) × (Int) × (Int) × Unit) : Option ((ref11_Added) ⊕ ((api_Pool) × (api_Node) × (List (api_Slot)) × (Int) × (Int) × Unit)) := loopO (ref11_Add_b0) s
def ref11_Add_b1 (s : (Int) × (api_Pool) × (api_Node) × (List (api_Slot)) × (Int) × (Int) × Unit) : Option (((Int) × (api_Pool) × (api_Node) × (List (api_Slot)) × (Int) × (Int) × Unit) ⊕ (((Int) × (api_Pool) × (api_Node) × (List (api_Slot)) × (Int) × (Int) × Unit) ⊕ (Unit))) :=
 let t0 : Bool := (decide ((s.1 : Int) < ((List.length s.2.1.1) : Int)))
 bif t0 then
  bif (decide ((0 : Int) ≤ s.1) && decide ((s.1 : Int) < (List.length s.2.1.1 : Int))) then
   let t1 : api_Slot := (List.getD s.2.1.1 (Int.toNat s.1) (false, (false, ((0 : Int), ((([] : List (api_Pair)), (([] : List (List UInt8)), (([] : List (Int)), (([] : List (api_Sum)), (([] : List (api_Msg)), ()))))), ())))))
   bif t1.1 then
    some (.inl ((IntKind.i64.wrap (s.1 + (1 : Int))), s.2.1, s.2.2.1, s.2.2.2.1, s.2.2.2.2.1, s.2.2.2.2.2.1, ()))
   else
    some (.inr (.inl (s.1, s.2.1, s.2.2.1, s.2.2.2.1, s.2.2.2.2.1, s.2.2.2.2.2.1, ())))
  else
   none
 else
  some (.inr (.inl (s.1, s.2.1, s.2.2.1, s.2.2.2.1, s.2.2.2.2.1, s.2.2.2.2.2.1, ())))
def ref11_Add_l1 (s : (Int) × (api_Pool) × (api_Node) × (List (api_Slot)) × (Int) × (Int) × Unit) : Option (((Int) × (api_Pool) × (api_Node) × (List (api_Slot)) × (Int) × (Int) × Unit) ⊕ (Unit)) := loopO (ref11_Add_b1) s
def ref11_Add_b2 (s : (Int) × (Int) × (api_Node) × (List (api_Slot)) × (Int) × (Int) × (List (api_Slot)) × Unit) : Option (((Int) × (Int) × (api_Node) × (List (api_Slot)) × (Int) × (Int) × (List (api_Slot)) × Unit) ⊕ (((Int) × (List (api_Slot)) × (Int) × (Int) × (List (api_Slot)) × Unit) ⊕ (Unit))) :=
 let t0 : Bool := (decide ((s.2.1 : Int) < ((List.length s.2.2.1.2.2.1) : Int)))
 bif t0 then
  bif (decide ((0 : Int) ≤ s.2.1) && decide ((s.2.1 : Int) < (List.length s.2.2.1.2.2.1 : Int))) then
   let t1 : Int := (List.getD s.2.2.1.2.2.1 (Int.toNat s.2.1) (0 : Int))
   bif (decide ((0 : Int) ≤ t1) && decide ((t1 : Int) < (List.length s.2.2.2.2.2.2.1 : Int))) then
    let t2 : api_Slot := (List.getD s.2.2.2.2.2.2.1 (Int.toNat t1) (false, (false, ((0 : Int), ((([] : List (api_Pair)), (([] : List (List UInt8)), (([] : List (Int)), (([] : List (api_Sum)), (([] : List (api_Msg)), ()))))), ())))))
    let t3 : Int := (IntKind.i64.wrap (t2.2.2.1 + (1 : Int)))
    bif (decide ((0 : Int) ≤ t1) && decide ((t1 : Int) < (List.length s.2.2.2.2.2.2.1 : Int))) then
     let t4 : List (api_Slot) := (List.set s.2.2.2.2.2.2.1 (Int.toNat t1) ((List.getD s.2.2.2.2.2.2.1 (Int.toNat t1) (false, (false, ((0 : Int), ((([] : List (api_Pair)), (([] : List (List UInt8)), (([] : List (Int)), (([] : List (api_Sum)), (([] : List (api_Msg)), ()))))), ()))))).1, ((List.getD s.2.2.2.2.2.2.1 (Int.toNat t1) (false, (false, ((0 : Int), ((([] : List (api_Pair)), (([] : List (List UInt8)), (([] : List (Int)), (([] : List (api_Sum)), (([] : List (api_Msg)), ()))))), ()))))).2.1, (t3, (List.getD s.2.2.2.2.2.2.1 (Int.toNat t1) (false, (false, ((0 : Int), ((([] : List (api_Pair)), (([] : List (List UInt8)), (([] : List (Int)), (([] : List (api_Sum)), (([] : List (api_Msg)), ()))))), ()))))).2.2.2))))
     some (.inl (s.1, (IntKind.i64.wrap (s.2.1 + (1 : Int))), s.2.2.1, s.2.2.2.1, s.2.2.2.2.1, s.2.2.2.2.2.1, t4, ()))
    else
     none
   else
    none
  else
   none
 else
  some (.inr (.inl (s.1, s.2.2.2.1, s.2.2.2.2.1, s.2.2.2.2.2.1, s.2.2.2.2.2.2.1, ())))
def ref11_Add_l2 (s : (Int) × (Int) × (api_Node) × (List (api_Slot)) × (Int) × (Int) × (List (api_Slot)) × Unit) : Option (((Int) × (List (api_Slot)) × (Int) × (Int) × (List (api_Slot)) × Unit) ⊕ (Unit)) := loopO (ref11_Add_b2) s
def ref11_Add_j0 (s : (Int) × (api_Node) × (List (api_Slot)) × (Int) × (Int) × (List (api_Slot)) × Unit) : Option ((ref11_Added) × Unit) :=
 bif (decide ((0 : Int) ≤ s.1) && decide ((s.1 : Int) < (List.length s.2.2.2.2.2.1 : Int))) then
  let t0 : List (api_Slot) := (List.set s.2.2.2.2.2.1 (Int.toNat s.1) (true, (false, ((1 : Int), (s.2.1, ())))))
  match ref11_Add_l2 (s.1, (0 : Int), s.2.1, s.2.2.1, s.2.2.2.1, s.2.2.2.2.1, t0, ()) with
  | none => none
  | some (.inl z1) =>
   some (((z1.2.2.2.2.1, ()), (z1.1, ((0 : Int), ()))), ())
  | some (.inr z1) =>
   none
 else
  none

def ref11_Add (s : (api_Pool) × (api_Node) × Unit) : Option ((ref11_Added) × Unit) :=
 match ref11_Add_l0 ((0 : Int), s.1, s.2.1, ([] : List (api_Slot)), (0 : Int), (0 : Int), ()) with
 | none => none
 | some (.inl z0) =>
  some ((z0.1, (z0.2.1, (z0.2.2.1, ()))), ())
 | some (.inr z0) =>
  match ref11_Add_l1 ((0 : Int), z0.1, z0.2.1, z0.2.2.1, z0.2.2.2.1, z0.2.2.2.2.1, ()) with
  | none => none
  | some (.inl z1) =>
   bif (decide ((z1.1 : Int) ≥ (4096 : Int))) then
    some ((z1.2.1, ((0 : Int), ((111 : Int), ()))), ())
   else
    match ref11_Copied (z1.2.1, ()) with
    | none => none
    | some r2 =>
     let t3 : Bool := (decide ((z1.1 : Int) = ((List.length r2.1) : Int)))
     bif t3 then
      bif (decide ((List.length r2.1 + List.length ([(false, (false, ((0 : Int), ((([] : List (api_Pair)), (([] : List (List UInt8)), (([] : List (Int)), (([] : List (api_Sum)), (([] : List (api_Msg)), ()))))), ()))))] : List (api_Slot))) * 136 ≤ roomMax)) then
       let t4 : List (api_Slot) := (r2.1 ++ ([(false, (false, ((0 : Int), ((([] : List (api_Pair)), (([] : List (List UInt8)), (([] : List (Int)), (([] : List (api_Sum)), (([] : List (api_Msg)), ()))))), ()))))] : List (api_Slot)))
       ref11_Add_j0 (z1.1, z1.2.2.1, z1.2.2.2.1, z1.2.2.2.2.1, z1.2.2.2.2.2.1, t4, ())
      else
       none
     else
      ref11_Add_j0 (z1.1, z1.2.2.1, z1.2.2.2.1, z1.2.2.2.2.1, z1.2.2.2.2.2.1, r2.1, ())
  | some (.inr z1) =>
   none
def ref10_Plus (s : (api_Sum) × (api_Sum) × Unit) : Option ((api_Sum) × Unit) :=
 let t0 : Int := (if ((IntKind.i64.wrap (s.1.1.1 + s.2.1.1.1)) : Int) < (1000000000000000 : Int) then (IntKind.i64.wrap (s.1.1.1 + s.2.1.1.1)) else (1000000000000000 : Int))
 let t1 : Int := (IntKind.i64.wrap (s.1.1.2.1 + s.2.1.1.2.1))
 let t2 : Int := (if (t1 : Int) < (1000000000000000 : Int) then t1 else (1000000000000000 : Int))
 let t3 : Int := (IntKind.i64.wrap (s.1.2.1.1 + s.2.1.2.1.1))
 let t4 : Int := (if (t3 : Int) < (1000000000000000 : Int) then t3 else (1000000000000000 : Int))
 let t5 : Int := (IntKind.i64.wrap (s.1.2.1.2.1 + s.2.1.2.1.2.1))
 let t6 : Int := (if (t5 : Int) < (1000000000000000 : Int) then t5 else (1000000000000000 : Int))
 some (((t0, (t2, ())), ((t4, (t6, ())), ())), ())
def ref01_guess_j2 (s : (List UInt8) × (Int) × (Bool) × (List UInt8) × (Int) × (Int) × (List UInt8) × (List UInt8) × (Int) × (Int) × (List UInt8) × Unit) : Option ((api_Place) × Unit) :=
 bif s.2.2.1 then
  bif (decide (((1 : Int) : Int) ≤ s.2.1) && decide ((s.2.1 : Int) ≤ (List.length s.1 : Int))) then
   let t0 : List UInt8 := (List.drop (Int.toNat (1 : Int)) (List.take (Int.toNat s.2.1) s.1))
   some ((t0, ((4 : Int), (s.2.2.2.2.2.2.2.2.2.1, (s.2.2.2.2.2.2.2.2.2.2.1, ())))), ())
  else
   none
 else
  some ((s.2.2.2.2.2.2.2.1, (s.2.2.2.2.2.2.2.2.1, (s.2.2.2.2.2.2.2.2.2.1, (s.2.2.2.2.2.2.2.2.2.2.1, ())))), ())
def ref01_guess_j1 (s : (List UInt8) × (Int) × (List UInt8) × (Int) × (Int) × (List UInt8) × (List UInt8) × (Int) × (Int) × (List UInt8) × Unit) : Option ((api_Place) × Unit) :=
 let t0 : Bool := (decide ((s.2.2.2.2.2.2.2.1 : Int) = (1 : Int)))
 bif t0 then
  bif (decide ((s.2.1 : Int) > (0 : Int))) then
   bif (decide (((0 : Int) : Int) < (List.length s.1 : Int))) then
    let t1 : Bool := (decide ((((List.getD s.1 0 0).toNat : Int) : Int) = (6 : Int)))
    ref01_guess_j2 (s.1, s.2.1, t1, s.2.2.1, s.2.2.2.1, s.2.2.2.2.1, s.2.2.2.2.2.1, s.2.2.2.2.2.2.1, s.2.2.2.2.2.2.2.1, s.2.2.2.2.2.2.2.2.1, s.2.2.2.2.2.2.2.2.2.1, ())
   else
    none
  else
   ref01_guess_j2 (s.1, s.2.1, false, s.2.2.1, s.2.2.2.1, s.2.2.2.2.1, s.2.2.2.2.2.1, s.2.2.2.2.2.2.1, s.2.2.2.2.2.2.2.1, s.2.2.2.2.2.2.2.2.1, s.2.2.2.2.2.2.2.2.2.1, ())
 else
  ref01_guess_j2 (s.1, s.2.1, false, s.2.2.1, s.2.2.2.1, s.2.2.2.2.1, s.2.2.2.2.2.1, s.2.2.2.2.2.2.1, s.2.2.2.2.2.2.2.1, s.2.2.2.2.2.2.2.2.1, s.2.2.2.2.2.2.2.2.2.1, ())
def ref01_guess_j0 (s : (List UInt8) × (Int) × (List UInt8) × (List UInt8) × (Int) × (Int) × (List UInt8) × (List UInt8) × (Int) × (Int) × (List UInt8) × Unit) : Option ((api_Place) × Unit) :=
 let t0 : Bool := (decide ((s.2.2.2.2.2.2.2.2.1 : Int) = (3 : Int)))
 bif t0 then
  ref01_guess_j1 (s.1, s.2.1, s.2.2.2.1, s.2.2.2.2.1, s.2.2.2.2.2.1, s.2.2.2.2.2.2.1, s.2.2.2.2.2.2.2.1, s.2.2.2.2.2.2.2.2.1, s.2.2.2.2.2.2.2.2.2.1, s.2.2.1, ())
 else
  ref01_guess_j1 (s.1, s.2.1, s.2.2.2.1, s.2.2.2.2.1, s.2.2.2.2.2.1, s.2.2.2.2.2.2.1, s.2.2.2.2.2.2.2.1, s.2.2.2.2.2.2.2.2.1, s.2.2.2.2.2.2.2.2.2.1, s.2.2.2.2.2.2.2.2.2.2.1, ())
def ref01_guess_j3 (s : (List UInt8) × (Int) × (List UInt8) × (Bool) × (List UInt8) × (Int) × (Int) × (List UInt8) × (List UInt8) × (Int) × (Int) × (List UInt8) × Unit) : Option ((api_Place) × Unit) :=
 bif s.2.2.2.1 then
  bif (decide (((0 : Int) : Int) < (List.length s.2.2.1 : Int))) then
   let t0 : Int := (IntKind.i64.wrap ((List.getD s.2.2.1 0 0).toNat : Int))
   bif (decide (((1 : Int) : Int) < (List.length s.2.2.1 : Int))) then
    let t1 : Int := ((List.getD s.2.2.1 (Int.toNat (1 : Int)) 0).toNat : Int)
    let t2 : Int := (IntKind.i64.wrap ((IntKind.i64.wrap ((256 : Int) * t0)) + (IntKind.i64.wrap t1)))
    ref01_guess_j0 (s.1, s.2.1, s.2.2.1, s.2.2.2.2.1, s.2.2.2.2.2.1, s.2.2.2.2.2.2.1, s.2.2.2.2.2.2.2.1, s.2.2.2.2.2.2.2.2.1, s.2.2.2.2.2.2.2.2.2.1, t2, s.2.2.2.2.2.2.2.2.2.2.2.1, ())
   else
    none
  else
   none
 else
  ref01_guess_j0 (s.1, s.2.1, s.2.2.1, s.2.2.2.2.1, s.2.2.2.2.2.1, s.2.2.2.2.2.2.1, s.2.2.2.2.2.2.2.1, s.2.2.2.2.2.2.2.2.1, s.2.2.2.2.2.2.2.2.2.1, s.2.2.2.2.2.2.2.2.2.2.1, s.2.2.2.2.2.2.2.2.2.2.2.1, ())

def ref01_guess (s : runtime_errorAddressString) : Option ((api_Place) × Unit) :=
 bif (decide (((0 : Int) : Int) ≤ s.2.1) && decide ((s.2.1 : Int) ≤ (List.length s.1 : Int))) then
  let t0 : List UInt8 := (List.drop 0 (List.take (Int.toNat s.2.1) s.1))
  bif (decide ((0 : Int) ≤ s.2.1) && decide ((s.2.1 : Int) < (List.length s.1 : Int))) then
   let t1 : Int := ((List.getD s.1 (Int.toNat s.2.1) 0).toNat : Int)
   bif (decide ((0 : Int) ≤ (IntKind.i64.wrap (s.2.1 + (1 : Int)))) && decide (((IntKind.i64.wrap (s.2.1 + (1 : Int))) : Int) ≤ (List.length s.1 : Int)) && decide (((List.length s.1 : Int) : Int) ≤ (List.length s.1 : Int))) then
    let t2 : List UInt8 := (List.drop (Int.toNat (IntKind.i64.wrap (s.2.1 + (1 : Int)))) (List.take (Int.toNat (List.length s.1 : Int)) s.1))
    let t3 : Bool := (decide (((IntKind.i64.wrap t1) : Int) = (2 : Int)))
    bif t3 then
     let t4 : Bool := (decide ((((List.length t2) : Int) : Int) = (2 : Int)))
     ref01_guess_j3 (s.1, s.2.1, t2, t4, ([] : List UInt8), (0 : Int), (0 : Int), ([] : List UInt8), t0, (IntKind.i64.wrap t1), (0 : Int), ([] : List UInt8), ())
    else
     ref01_guess_j3 (s.1, s.2.1, t2, false, ([] : List UInt8), (0 : Int), (0 : Int), ([] : List UInt8), t0, (IntKind.i64.wrap t1), (0 : Int), ([] : List UInt8), ())
   else
    none
  else
   none
 else
  none
def ref01_Names_b0 (s : (List UInt8) × (List UInt8) × (Int) × (List (List UInt8)) × Unit) : Option (((List UInt8) × (List UInt8) × (Int) × (List (List UInt8)) × Unit) ⊕ (((List UInt8) × (List (List UInt8)) × Unit) ⊕ (Unit))) :=
 let t0 : Bool := (decide ((s.2.2.1 : Int) < ((List.length s.1) : Int)))
 bif t0 then
  bif (decide ((0 : Int) ≤ s.2.2.1) && decide ((s.2.2.1 : Int) < (List.length s.1 : Int))) then
   let t1 : Int := ((List.getD s.1 (Int.toNat s.2.2.1) 0).toNat : Int)
   bif (decide ((t1 : Int) = (47 : Int))) then
    bif (decide ((List.length s.2.2.2.1 + List.length ([s.2.1] : List (List UInt8))) * 16 ≤ roomMax)) then
     let t2 : List (List UInt8) := (s.2.2.2.1 ++ ([s.2.1] : List (List UInt8)))
     some (.inl (s.1, ([] : List UInt8), (IntKind.i64.wrap (s.2.2.1 + (1 : Int))), t2, ()))
    else
     none
   else
    bif (decide ((0 : Int) ≤ s.2.2.1) && decide ((s.2.2.1 : Int) ≤ (IntKind.i64.wrap (s.2.2.1 + (1 : Int)))) && decide (((IntKind.i64.wrap (s.2.2.1 + (1 : Int))) : Int) ≤ (List.length s.1 : Int))) then
     let t2 : List UInt8 := (List.drop (Int.toNat s.2.2.1) (List.take (Int.toNat (IntKind.i64.wrap (s.2.2.1 + (1 : Int)))) s.1))
     bif (decide (List.length s.2.1 + List.length t2 ≤ roomMax)) then
      some (.inl (s.1, (s.2.1 ++ t2), (IntKind.i64.wrap (s.2.2.1 + (1 : Int))), s.2.2.2.1, ()))
     else
      none
    else
     none
  else
   none
 else
  some (.inr (.inl (s.2.1, s.2.2.2.1, ())))
def ref01_Names_l0 (s : (List UInt8) × (List UInt8) × (Int) × (List (List UInt8)) × Unit) : Option (((List UInt8) × (List (List UInt8)) × Unit) ⊕ (Unit)) := loopO (ref01_Names_b0) s
def ref01_Names (s : (List UInt8) × Unit) : Option ((Bool) × (List (List UInt8)) × Unit) :=
 match ref01_Names_l0 (s.1, ([] : List UInt8), (0 : Int), ([] : List (List UInt8)), ()) with
 | none => none
 | some (.inl z0) =>
  let t1 : Bool := (decide ((z0.1 : List UInt8) = ([] : List UInt8)))
  some (t1, z0.2.1, ())
 | some (.inr z0) =>
  none
def ref01_Name_b0 (s : runtime_errorAddressString) : Option ((runtime_errorAddressString) ⊕ (((Bool) × Unit) ⊕ (Unit))) :=
 let t0 : Bool := (decide ((s.2.1 : Int) < ((List.length s.1) : Int)))
 bif t0 then
  bif (decide ((0 : Int) ≤ s.2.1) && decide ((s.2.1 : Int) < (List.length s.1 : Int))) then
   let t1 : Int := ((List.getD s.1 (Int.toNat s.2.1) 0).toNat : Int)
   bif (!(decide ((t1 : Int) < (33 : Int)))) then
    bif (decide ((0 : Int) ≤ s.2.1) && decide ((s.2.1 : Int) < (List.length s.1 : Int))) then
     let t2 : Int := ((List.getD s.1 (Int.toNat s.2.1) 0).toNat : Int)
     bif (!(decide ((t2 : Int) > (126 : Int)))) then
      bif (decide ((0 : Int) ≤ s.2.1) && decide ((s.2.1 : Int) < (List.length s.1 : Int))) then
       let t3 : Int := ((List.getD s.1 (Int.toNat s.2.1) 0).toNat : Int)
       bif (decide ((t3 : Int) = (47 : Int))) then
        some (.inr (.inl (false, ())))
       else
        some (.inl (s.1, (IntKind.i64.wrap (s.2.1 + (1 : Int))), ()))
      else
       none
     else
      some (.inr (.inl (false, ())))
    else
     none
   else
    some (.inr (.inl (false, ())))
  else
   none
 else
  some (.inr (.inr (())))
def ref01_Name_l0 (s : runtime_errorAddressString) : Option (((Bool) × Unit) ⊕ (Unit)) := loopO (ref01_Name_b0) s
def ref01_Name (s : (List UInt8) × Unit) : Option ((Bool) × Unit) :=
 let t0 : Bool := (decide ((((List.length s.1) : Int) : Int) < (1 : Int)))
 bif (!t0) then
  let t1 : Bool := (decide ((((List.length s.1) : Int) : Int) > (12 : Int)))
  bif (!t1) then
   let t2 : Bool := (decide ((s.1 : List UInt8) = ([46] : List UInt8)))
   bif (!t2) then
    let t3 : Bool := (decide ((s.1 : List UInt8) = ([46, 46] : List UInt8)))
    bif t3 then
     some (false, ())
    else
     match ref01_Name_l0 (s.1, (0 : Int), ()) with
     | none => none
     | some (.inl z4) =>
      some (z4.1, ())
     | some (.inr z4) =>
      some (true, ())
   else
    some (false, ())
  else
   some (false, ())
 else
  some (false, ())
def ref01_Valid_b0 (s : (Bool) × (Int) × (List (List UInt8)) × Unit) : Option (((Bool) × (Int) × (List (List UInt8)) × Unit) ⊕ (((Bool) × Unit) ⊕ ((Bool) × Unit))) :=
 let t0 : Bool := (decide ((s.2.1 : Int) < ((List.length s.2.2.1) : Int)))
 bif t0 then
  bif (decide ((0 : Int) ≤ s.2.1) && decide ((s.2.1 : Int) < (List.length s.2.2.1 : Int))) then
   let t1 : List UInt8 := (List.getD s.2.2.1 (Int.toNat s.2.1) ([] : List UInt8))
   match ref01_Name (t1, ()) with
   | none => none
   | some r2 =>
    bif (!r2.1) then
     some (.inr (.inl (false, ())))
    else
     some (.inl (s.1, (IntKind.i64.wrap (s.2.1 + (1 : Int))), s.2.2.1, ()))
  else
   none
 else
  some (.inr (.inr (s.1, ())))
def ref01_Valid_l0 (s : (Bool) × (Int) × (List (List UInt8)) × Unit) : Option (((Bool) × Unit) ⊕ ((Bool) × Unit)) := loopO (ref01_Valid_b0) s
def ref01_Valid (s : (List UInt8) × Unit) : Option ((Bool) × Unit) :=
 match ref01_Names (s.1, ()) with
 | none => none
 | some r0 =>
  match ref01_Valid_l0 (r0.1, (0 : Int), r0.2.1, ()) with
  | none => none
  | some (.inl z1) =>
   some (z1.1, ())
  | some (.inr z1) =>
   some (z1.1, ())
def ref01_Body_b0 (s : (Int) × (List UInt8) × (Int) × Unit) : Option (((Int) × (List UInt8) × (Int) × Unit) ⊕ (((List UInt8) × Unit) ⊕ (Unit))) :=
 bif (decide ((s.2.2.1 : Int) < (8 : Int))) then
  let t0 : Int := (IntKind.i64.wrap ((Int.tmod s.1 (16 : Int)) + (1 : Int)))
  bif (decide ((0 : Int) ≤ (Int.tmod s.1 (16 : Int))) && decide (((Int.tmod s.1 (16 : Int)) : Int) ≤ t0) && decide ((t0 : Int) ≤ (List.length ([48, 49, 50, 51, 52, 53, 54, 55, 56, 57, 97, 98, 99, 100, 101, 102] : List UInt8) : Int))) then
   let t1 : List UInt8 := (List.drop (Int.toNat (Int.tmod s.1 (16 : Int))) (List.take (Int.toNat t0) ([48, 49, 50, 51, 52, 53, 54, 55, 56, 57, 97, 98, 99, 100, 101, 102] : List UInt8)))
   bif (decide (List.length t1 + List.length s.2.1 ≤ roomMax)) then
    let t2 : Int := (IntKind.i64.wrap (Int.tdiv s.1 (16 : Int)))
    some (.inl (t2, (t1 ++ s.2.1), (IntKind.i64.wrap (s.2.2.1 + (1 : Int))), ()))
   else
    none
  else
   none
 else
  some (.inr (.inl (s.2.1, ())))
def ref01_Body_l0 (s : (Int) × (List UInt8) × (Int) × Unit) : Option (((List UInt8) × Unit) ⊕ (Unit)) := loopO (ref01_Body_b0) s
def ref01_Body_j0 (s : (Int) × (Bool) × Unit) : Option ((List UInt8) × Unit) :=
 bif s.2.1 then
  some (([] : List UInt8), ())
 else
  match ref01_Body_l0 (s.1, ([] : List UInt8), (0 : Int), ()) with
  | none => none
  | some (.inl z0) =>
   bif (decide (List.length ([5] : List UInt8) + List.length z0.1 ≤ roomMax)) then
    bif (decide (List.length (([5] : List UInt8) ++ z0.1) + List.length ([47] : List UInt8) ≤ roomMax)) then
     let t1 : List UInt8 := ((([5] : List UInt8) ++ z0.1) ++ ([47] : List UInt8))
     some (t1, ())
    else
     none
   else
    none
  | some (.inr z0) =>
   none

def ref01_Body (s : (Int) × Unit) : Option ((List UInt8) × Unit) :=
 bif (!(decide ((s.1 : Int) < (0 : Int)))) then
  let t0 : Bool := (decide ((s.1 : Int) > (2147483647 : Int)))
  ref01_Body_j0 (s.1, t0, ())
 else
  ref01_Body_j0 (s.1, true, ())
def ref01_IsBody_b0_j0 (s : (List UInt8) × (Int) × (Int) × (Int) × (Bool) × Unit) : Option (((List UInt8) × (Int) × (Int) × Unit) ⊕ ((runtime_errorAddressString) ⊕ (Unit))) :=
 bif s.2.2.2.2.1 then
  let t0 : Int := (IntKind.i64.wrap ((IntKind.i64.wrap ((16 : Int) * s.2.1)) + s.2.2.2.1))
  some (.inl (s.1, (IntKind.i64.wrap (t0 - (48 : Int))), (IntKind.i64.wrap (s.2.2.1 + (1 : Int))), ()))
 else
  let t0 : Int := (IntKind.i64.wrap ((IntKind.i64.wrap ((16 : Int) * s.2.1)) + s.2.2.2.1))
  let t1 : Int := (IntKind.i64.wrap ((IntKind.i64.wrap (t0 - (97 : Int))) + (10 : Int)))
  some (.inl (s.1, t1, (IntKind.i64.wrap (s.2.2.1 + (1 : Int))), ()))

def ref01_IsBody_b0 (s : (List UInt8) × (Int) × (Int) × Unit) : Option (((List UInt8) × (Int) × (Int) × Unit) ⊕ ((runtime_errorAddressString) ⊕ (Unit))) :=
 bif (decide ((s.2.2.1 : Int) < (9 : Int))) then
  bif (decide ((0 : Int) ≤ s.2.2.1) && decide ((s.2.2.1 : Int) < (List.length s.1 : Int))) then
   let t0 : Int := ((List.getD s.1 (Int.toNat s.2.2.1) 0).toNat : Int)
   let t1 : Bool := (decide (((IntKind.i64.wrap t0) : Int) ≥ (48 : Int)))
   bif t1 then
    let t2 : Bool := (decide (((IntKind.i64.wrap t0) : Int) ≤ (57 : Int)))
    ref01_IsBody_b0_j0 (s.1, s.2.1, s.2.2.1, (IntKind.i64.wrap t0), t2, ())
   else
    ref01_IsBody_b0_j0 (s.1, s.2.1, s.2.2.1, (IntKind.i64.wrap t0), false, ())
  else
   none
 else
  some (.inr (.inl (s.1, s.2.1, ())))
def ref01_IsBody_l0 (s : (List UInt8) × (Int) × (Int) × Unit) : Option ((runtime_errorAddressString) ⊕ (Unit)) := loopO (ref01_IsBody_b0) s
def ref01_IsBody (s : (List UInt8) × Unit) : Option ((Bool) × Unit) :=
 let t0 : Bool := (!decide ((((List.length s.1) : Int) : Int) = (10 : Int)))
 bif t0 then
  some (false, ())
 else
  match ref01_IsBody_l0 (s.1, (0 : Int), (1 : Int), ()) with
  | none => none
  | some (.inl z1) =>
   match ref01_Body (z1.2.1, ()) with
   | none => none
   | some r2 =>
    some ((decide ((r2.1 : List UInt8) = z1.1)), ())
  | some (.inr z1) =>
   none
def ref01_right_c100002 (s : (Bool) × (api_Place) × Unit) : Option (((api_Place) × Unit) ⊕ ((Bool) × Unit)) :=
 bif s.1 then
  some (.inr (false, ()))
 else
  some (.inl (s.2.1, ()))
def ref01_right_c10 (s : (api_Place) × Unit) : Option (((Bool) × Unit) ⊕ (Unit)) :=
 bif (decide ((s.1.2.1 : Int) = (4 : Int))) then
  match ref01_Valid (s.1.1, ()) with
  | none => none
  | some r0 =>
   some (.inl (r0.1, ()))
 else
  some (.inl (false, ()))
def ref01_right_c3 (s : (api_Place) × Unit) : Option (((Bool) × Unit) ⊕ (Unit)) :=
 bif (decide ((s.1.2.1 : Int) = (1 : Int))) then
  some (.inl (true, ()))
 else
  bif (decide ((s.1.2.1 : Int) = (2 : Int))) then
   bif (decide ((s.1.2.2.1 : Int) ≥ (0 : Int))) then
    let t0 : Bool := (decide ((s.1.2.2.1 : Int) ≤ (60000 : Int)))
    some (.inl (t0, ()))
   else
    some (.inl (false, ()))
  else
   bif (decide ((s.1.2.1 : Int) = (3 : Int))) then
    match ref01_Name (s.1.2.2.2.1, ()) with
    | none => none
    | some r0 =>
     some (.inl (r0.1, ()))
   else
    match ref01_right_c10 (s.1, ()) with
    | none => none
    | some (.inl z0) =>
     some (.inl (z0.1, ()))
    | some (.inr z0) =>
     none
def ref01_right (s : (api_Place) × Unit) : Option ((Bool) × Unit) :=
 match ref01_Valid (s.1.1, ()) with
 | none => none
 | some r0 =>
  bif (!r0.1) then
   match ref01_IsBody (s.1.1, ()) with
   | none => none
   | some r1 =>
    bif (!(!r1.1)) then
     bif (!decide ((s.1.2.1 : Int) = (2 : Int))) then
      let t2 : Bool := (!decide ((s.1.2.2.1 : Int) = (0 : Int)))
      bif (!t2) then
       bif (!decide ((s.1.2.1 : Int) = (3 : Int))) then
        let t3 : Bool := (!decide ((s.1.2.2.2.1 : List UInt8) = ([] : List UInt8)))
        match ref01_right_c100002 (t3, s.1, ()) with
        | none => none
        | some (.inl z4) =>
         match ref01_right_c3 (z4.1, ()) with
         | none => none
         | some (.inl z5) =>
          some (z5.1, ())
         | some (.inr z5) =>
          none
        | some (.inr z4) =>
         some (z4.1, ())
       else
        match ref01_right_c100002 (false, s.1, ()) with
        | none => none
        | some (.inl z3) =>
         match ref01_right_c3 (z3.1, ()) with
         | none => none
         | some (.inl z4) =>
          some (z4.1, ())
         | some (.inr z4) =>
          none
        | some (.inr z3) =>
         some (z3.1, ())
      else
       match ref01_right_c100002 (true, s.1, ()) with
       | none => none
       | some (.inl z3) =>
        match ref01_right_c3 (z3.1, ()) with
        | none => none
        | some (.inl z4) =>
         some (z4.1, ())
        | some (.inr z4) =>
         none
       | some (.inr z3) =>
        some (z3.1, ())
     else
      bif (!decide ((s.1.2.1 : Int) = (3 : Int))) then
       let t2 : Bool := (!decide ((s.1.2.2.2.1 : List UInt8) = ([] : List UInt8)))
       match ref01_right_c100002 (t2, s.1, ()) with
       | none => none
       | some (.inl z3) =>
        match ref01_right_c3 (z3.1, ()) with
        | none => none
        | some (.inl z4) =>
         some (z4.1, ())
        | some (.inr z4) =>
         none
       | some (.inr z3) =>
        some (z3.1, ())
      else
       match ref01_right_c100002 (false, s.1, ()) with
       | none => none
       | some (.inl z2) =>
        match ref01_right_c3 (z2.1, ()) with
        | none => none
        | some (.inl z3) =>
         some (z3.1, ())
        | some (.inr z3) =>
         none
       | some (.inr z2) =>
        some (z2.1, ())
    else
     match ref01_right_c100002 (true, s.1, ()) with
     | none => none
     | some (.inl z2) =>
      match ref01_right_c3 (z2.1, ()) with
      | none => none
      | some (.inl z3) =>
       some (z3.1, ())
      | some (.inr z3) =>
       none
     | some (.inr z2) =>
      some (z2.1, ())
  else
   bif (!decide ((s.1.2.1 : Int) = (2 : Int))) then
    let t1 : Bool := (!decide ((s.1.2.2.1 : Int) = (0 : Int)))
    bif (!t1) then
     bif (!decide ((s.1.2.1 : Int) = (3 : Int))) then
      let t2 : Bool := (!decide ((s.1.2.2.2.1 : List UInt8) = ([] : List UInt8)))
      match ref01_right_c100002 (t2, s.1, ()) with
      | none => none
      | some (.inl z3) =>
       match ref01_right_c3 (z3.1, ()) with
       | none => none
       | some (.inl z4) =>
        some (z4.1, ())
       | some (.inr z4) =>
        none
      | some (.inr z3) =>
       some (z3.1, ())
     else
      match ref01_right_c100002 (false, s.1, ()) with
      | none => none
      | some (.inl z2) =>
       match ref01_right_c3 (z2.1, ()) with
       | none => none
       | some (.inl z3) =>
        some (z3.1, ())
       | some (.inr z3) =>
        none
      | some (.inr z2) =>
       some (z2.1, ())
    else
     match ref01_right_c100002 (true, s.1, ()) with
     | none => none
     | some (.inl z2) =>
      match ref01_right_c3 (z2.1, ()) with
      | none => none
      | some (.inl z3) =>
       some (z3.1, ())
      | some (.inr z3) =>
       none
     | some (.inr z2) =>
      some (z2.1, ())
   else
    bif (!decide ((s.1.2.1 : Int) = (3 : Int))) then
     let t1 : Bool := (!decide ((s.1.2.2.2.1 : List UInt8) = ([] : List UInt8)))
     match ref01_right_c100002 (t1, s.1, ()) with
     | none => none
     | some (.inl z2) =>
      match ref01_right_c3 (z2.1, ()) with
      | none => none
      | some (.inl z3) =>
       some (z3.1, ())
      | some (.inr z3) =>
       none
     | some (.inr z2) =>
      some (z2.1, ())
    else
     match ref01_right_c100002 (false, s.1, ()) with
     | none => none
     | some (.inl z1) =>
      match ref01_right_c3 (z1.1, ()) with
      | none => none
      | some (.inl z2) =>
       some (z2.1, ())
      | some (.inr z2) =>
       none
     | some (.inr z1) =>
      some (z1.1, ())
def ref01_Key (s : (api_Place) × Unit) : Option (runtime_errorAddressString) :=
 match ref01_right (s.1, ()) with
 | none => none
 | some r0 =>
  bif (!r0.1) then
   some (([] : List UInt8), (12 : Int), ())
  else
   bif (decide ((s.1.2.1 : Int) = (1 : Int))) then
    bif (decide (List.length s.1.1 + List.length ([1] : List UInt8) ≤ roomMax)) then
     some ((s.1.1 ++ ([1] : List UInt8)), (0 : Int), ())
    else
     none
   else
    bif (decide ((s.1.2.1 : Int) = (2 : Int))) then
     bif (decide (List.length s.1.1 + List.length ([2] : List UInt8) ≤ roomMax)) then
      let t1 : Int := (IntKind.i64.wrap (Int.tdiv s.1.2.2.1 (256 : Int)))
      let t2 : Int := (IntKind.u8.wrap (Int.tmod s.1.2.2.1 (256 : Int)))
      let t3 : List UInt8 := (sOfBytes ([(IntKind.u8.wrap t1), t2] : List (Int)))
      bif (decide (List.length (s.1.1 ++ ([2] : List UInt8)) + List.length t3 ≤ roomMax)) then
       some (((s.1.1 ++ ([2] : List UInt8)) ++ t3), (0 : Int), ())
      else
       none
     else
      none
    else
     bif (decide ((s.1.2.1 : Int) = (3 : Int))) then
      bif (decide (List.length s.1.1 + List.length ([3] : List UInt8) ≤ roomMax)) then
       bif (decide (List.length (s.1.1 ++ ([3] : List UInt8)) + List.length s.1.2.2.2.1 ≤ roomMax)) then
        let t1 : List UInt8 := ((s.1.1 ++ ([3] : List UInt8)) ++ s.1.2.2.2.1)
        some (t1, (0 : Int), ())
       else
        none
      else
       none
     else
      bif (decide (List.length ([6] : List UInt8) + List.length s.1.1 ≤ roomMax)) then
       bif (decide (List.length (([6] : List UInt8) ++ s.1.1) + List.length ([1] : List UInt8) ≤ roomMax)) then
        let t1 : List UInt8 := ((([6] : List UInt8) ++ s.1.1) ++ ([1] : List UInt8))
        some (t1, (0 : Int), ())
       else
        none
      else
       none
def ref01_Place_b0_j0 (s : (List UInt8) × (Int) × (Bool) × (List UInt8) × (Int) × (Int) × (List UInt8) × Unit) : Option (((List UInt8) × (Int) × (List UInt8) × (Int) × (Int) × (List UInt8) × Unit) ⊕ (((Int) × (api_Place) × Unit) ⊕ (api_Place))) :=
 bif s.2.2.1 then
  some (.inl (s.1, (IntKind.i64.wrap (s.2.1 + (1 : Int))), s.2.2.2.1, s.2.2.2.2.1, s.2.2.2.2.2.1, s.2.2.2.2.2.2.1, ()))
 else
  match ref01_guess (s.1, s.2.1, ()) with
  | none => none
  | some r0 =>
   match ref01_Key (r0.1, ()) with
   | none => none
   | some r1 =>
    bif (decide ((r1.2.1 : Int) = (0 : Int))) then
     bif (decide ((r1.1 : List UInt8) = s.1)) then
      some (.inr (.inl ((0 : Int), r0.1, ())))
     else
      some (.inl (s.1, (IntKind.i64.wrap (s.2.1 + (1 : Int))), s.2.2.2.1, s.2.2.2.2.1, s.2.2.2.2.2.1, s.2.2.2.2.2.2.1, ()))
    else
     some (.inl (s.1, (IntKind.i64.wrap (s.2.1 + (1 : Int))), s.2.2.2.1, s.2.2.2.2.1, s.2.2.2.2.2.1, s.2.2.2.2.2.2.1, ()))

def ref01_Place_b0 (s : (List UInt8) × (Int) × (List UInt8) × (Int) × (Int) × (List UInt8) × Unit) : Option (((List UInt8) × (Int) × (List UInt8) × (Int) × (Int) × (List UInt8) × Unit) ⊕ (((Int) × (api_Place) × Unit) ⊕ (api_Place))) :=
 let t0 : Bool := (decide ((s.2.1 : Int) < ((List.length s.1) : Int)))
 bif t0 then
  bif (decide ((0 : Int) ≤ s.2.1) && decide ((s.2.1 : Int) < (List.length s.1 : Int))) then
   let t1 : Int := ((List.getD s.1 (Int.toNat s.2.1) 0).toNat : Int)
   bif (!(decide ((t1 : Int) < (1 : Int)))) then
    bif (decide ((0 : Int) ≤ s.2.1) && decide ((s.2.1 : Int) < (List.length s.1 : Int))) then
     let t2 : Int := ((List.getD s.1 (Int.toNat s.2.1) 0).toNat : Int)
     ref01_Place_b0_j0 (s.1, s.2.1, (decide ((t2 : Int) > (3 : Int))), s.2.2.1, s.2.2.2.1, s.2.2.2.2.1, s.2.2.2.2.2.1, ())
    else
     none
   else
    ref01_Place_b0_j0 (s.1, s.2.1, true, s.2.2.1, s.2.2.2.1, s.2.2.2.2.1, s.2.2.2.2.2.1, ())
  else
   none
 else
  some (.inr (.inr (s.2.2.1, s.2.2.2.1, s.2.2.2.2.1, s.2.2.2.2.2.1, ())))
def ref01_Place_l0 (s : (List UInt8) × (Int) × (List UInt8) × (Int) × (Int) × (List UInt8) × Unit) : Option (((Int) × (api_Place) × Unit) ⊕ (api_Place)) := loopO (ref01_Place_b0) s
def ref01_Place (s : (List UInt8) × Unit) : Option ((api_Place) × (Int) × Unit) :=
 match ref01_Place_l0 (s.1, (0 : Int), ([] : List UInt8), (0 : Int), (0 : Int), ([] : List UInt8), ()) with
 | none => none
 | some (.inl z0) =>
  some (z0.2.1, z0.1, ())
 | some (.inr z0) =>
  some ((([] : List UInt8), ((0 : Int), ((0 : Int), (([] : List UInt8), ())))), (12 : Int), ())
def ref10_isEntry (s : (List UInt8) × Unit) : Option ((Bool) × Unit) :=
 match ref01_Place (s.1, ()) with
 | none => none
 | some r0 =>
  bif (decide ((r0.2.1 : Int) = (0 : Int))) then
   some ((decide ((r0.1.2.1 : Int) = (1 : Int))), ())
  else
   some (false, ())
def ref10_higher (s : (api_Bill) × (Int) × Unit) : Option (cost_bill) :=
 let t0 : Int := (if ((IntKind.i64.wrap (s.1.2.1 + s.2.1)) : Int) < (1000000000000000 : Int) then (IntKind.i64.wrap (s.1.2.1 + s.2.1)) else (1000000000000000 : Int))
 some ((s.1.1, (t0, ())), ())
def ref10_lower (s : (api_Bill) × (Int) × Unit) : Option (cost_bill) :=
 let t0 : Int := (if ((0 : Int) : Int) < (IntKind.i64.wrap (s.1.1 - s.2.1)) then (IntKind.i64.wrap (s.1.1 - s.2.1)) else (0 : Int))
 some ((t0, (s.1.2.1, ())), ())
def ref10_Alike_j1 (s : (List UInt8) × (List UInt8) × (Bool) × (Bool) × Unit) : Option ((Bool) × Unit) :=
 bif (!s.2.2.1) then
  bif (!s.2.2.2.1) then
   match ref01_IsBody (s.1, ()) with
   | none => none
   | some r0 =>
    bif r0.1 then
     match ref01_IsBody (s.2.1, ()) with
     | none => none
     | some r1 =>
      some (r1.1, ())
    else
     some (false, ())
  else
   some (true, ())
 else
  some (true, ())
def ref10_Alike_j0 (s : (List UInt8) × (List UInt8) × (Bool) × Unit) : Option ((Bool) × Unit) :=
 let t0 : Bool := (!decide ((s.1 : List UInt8) = ([] : List UInt8)))
 bif t0 then
  let t1 : Bool := (!decide ((s.2.1 : List UInt8) = ([] : List UInt8)))
  bif t1 then
   match ref01_Valid (s.1, ()) with
   | none => none
   | some r2 =>
    bif r2.1 then
     match ref01_Valid (s.2.1, ()) with
     | none => none
     | some r3 =>
      ref10_Alike_j1 (s.1, s.2.1, s.2.2.1, r3.1, ())
    else
     ref10_Alike_j1 (s.1, s.2.1, s.2.2.1, false, ())
  else
   ref10_Alike_j1 (s.1, s.2.1, s.2.2.1, false, ())
 else
  ref10_Alike_j1 (s.1, s.2.1, s.2.2.1, false, ())

def ref10_Alike (s : api_Span) : Option ((Bool) × Unit) :=
 let t0 : Bool := (decide ((((List.length s.1) : Int) : Int) > (0 : Int)))
 bif t0 then
  bif (decide (((0 : Int) : Int) < (List.length s.1 : Int))) then
   let t1 : Bool := (decide ((((List.getD s.1 0 0).toNat : Int) : Int) = (6 : Int)))
   bif t1 then
    let t2 : Bool := (decide ((((List.length s.2.1) : Int) : Int) > (0 : Int)))
    bif t2 then
     bif (decide (((0 : Int) : Int) < (List.length s.2.1 : Int))) then
      let t3 : Bool := (decide ((((List.getD s.2.1 0 0).toNat : Int) : Int) = (6 : Int)))
      ref10_Alike_j0 (s.1, s.2.1, t3, ())
     else
      none
    else
     ref10_Alike_j0 (s.1, s.2.1, false, ())
   else
    ref10_Alike_j0 (s.1, s.2.1, false, ())
  else
   none
 else
  ref10_Alike_j0 (s.1, s.2.1, false, ())
def ref10_change (s : (api_Sum) × (api_Msg) × Unit) : Option ((api_Sum) × Unit) :=
 bif (decide ((s.2.1.1 : Int) = (1 : Int))) then
  match ref10_isEntry (s.2.1.2.1, ()) with
  | none => none
  | some r0 =>
   bif r0.1 then
    match ref10_higher (s.1.1, (1 : Int), ()) with
    | none => none
    | some r1 =>
     some ((r1.1, (s.1.2.1, ())), ())
   else
    match ref10_lower (s.1.2.1, (64 : Int), ()) with
    | none => none
    | some r1 =>
     match ref10_higher (r1.1, ((List.length s.2.1.2.2.1) : Int), ()) with
     | none => none
     | some r2 =>
      some ((s.1.1, (r2.1, ())), ())
 else
  bif (decide ((s.2.1.1 : Int) = (2 : Int))) then
   match ref10_isEntry (s.2.1.2.1, ()) with
   | none => none
   | some r0 =>
    bif r0.1 then
     match ref10_lower (s.1.1, (1 : Int), ()) with
     | none => none
     | some r1 =>
      some ((r1.1, (s.1.2.1, ())), ())
    else
     match ref10_lower (s.1.2.1, (64 : Int), ()) with
     | none => none
     | some r1 =>
      some ((s.1.1, (r1.1, ())), ())
  else
   bif (decide ((s.2.1.1 : Int) = (6 : Int))) then
    some (s.1, ())
   else
    bif (decide ((s.2.1.1 : Int) = (3 : Int))) then
     some ((((0 : Int), (s.1.1.2.1, ())), (((0 : Int), (s.1.2.1.2.1, ())), ())), ())
    else
     match ref10_Alike (s.2.1.2.2.2.2.1, s.2.1.2.2.2.2.2.1, ()) with
     | none => none
     | some r0 =>
      bif (!r0.1) then
       some ((((0 : Int), ((1000000000000000 : Int), ())), (((0 : Int), ((1000000000000000 : Int), ())), ())), ())
      else
       bif (decide ((s.2.1.1 : Int) = (5 : Int))) then
        match ref10_higher (((0 : Int), (s.1.1.2.1, ())), s.1.1.2.1, ()) with
        | none => none
        | some r1 =>
         match ref10_higher (((0 : Int), (s.1.2.1.2.1, ())), s.1.2.1.2.1, ()) with
         | none => none
         | some r2 =>
          some ((r1.1, (r2.1, ())), ())
       else
        some ((((0 : Int), (s.1.1.2.1, ())), (((0 : Int), (s.1.2.1.2.1, ())), ())), ())
def ref03_Charge (s : (api_Pair) × Unit) : Option (cost_bill) :=
 match ref01_Place (s.1.1, ()) with
 | none => none
 | some r0 =>
  bif (!decide ((r0.2.1 : Int) = (0 : Int))) then
   some (((0 : Int), ((0 : Int), ())), ())
  else
   bif (decide ((r0.1.2.1 : Int) = (1 : Int))) then
    some (((1 : Int), ((0 : Int), ())), ())
   else
    bif (decide ((r0.1.2.1 : Int) = (2 : Int))) then
     some (((0 : Int), (((List.length s.1.2.1) : Int), ())), ())
    else
     bif (decide ((r0.1.2.1 : Int) = (3 : Int))) then
      some (((0 : Int), (((List.length s.1.2.1) : Int), ())), ())
     else
      some (((0 : Int), ((0 : Int), ())), ())
def ref03_Total_b0 (s : (List (api_Pair)) × (Int) × (Int) × (Int) × (Int) × (Int) × Unit) : Option (((List (api_Pair)) × (Int) × (Int) × (Int) × (Int) × (Int) × Unit) ⊕ (((Int) × (Int) × (Int) × (Int) × Unit) ⊕ (Unit))) :=
 let t0 : Bool := (decide ((s.2.1 : Int) < ((List.length s.1) : Int)))
 bif t0 then
  bif (decide ((0 : Int) ≤ s.2.1) && decide ((s.2.1 : Int) < (List.length s.1 : Int))) then
   let t1 : api_Pair := (List.getD s.1 (Int.toNat s.2.1) (([] : List UInt8), (([] : List UInt8), ((0 : Int), ()))))
   match ref03_Charge (t1, ()) with
   | none => none
   | some r2 =>
    let t3 : Int := (IntKind.i64.wrap (s.2.2.2.2.1 + r2.1.1))
    let t4 : Int := (IntKind.i64.wrap (s.2.2.2.2.2.1 + r2.1.2.1))
    some (.inl (s.1, (IntKind.i64.wrap (s.2.1 + (1 : Int))), s.2.2.1, s.2.2.2.1, t3, t4, ()))
  else
   none
 else
  some (.inr (.inl (s.2.2.1, s.2.2.2.1, s.2.2.2.2.1, s.2.2.2.2.2.1, ())))
def ref03_Total_l0 (s : (List (api_Pair)) × (Int) × (Int) × (Int) × (Int) × (Int) × Unit) : Option (((Int) × (Int) × (Int) × (Int) × Unit) ⊕ (Unit)) := loopO (ref03_Total_b0) s
def ref03_Total (s : (List (api_Pair)) × Unit) : Option (cost_bill) :=
 match ref03_Total_l0 (s.1, (0 : Int), (0 : Int), (0 : Int), (0 : Int), (0 : Int), ()) with
 | none => none
 | some (.inl z0) =>
  some ((z0.2.2.1, (z0.2.2.2.1, ())), ())
 | some (.inr z0) =>
  none
def ref10_Exact (s : cost_bill) : Option ((api_Sum) × Unit) :=
 some (((s.1.1, (s.1.1, ())), ((s.1.2.1, (s.1.2.1, ())), ())), ())
def ref10_Sum_b0 (s : (Int) × (api_Node) × (Int) × (Int) × (Int) × (Int) × (api_Sum) × Unit) : Option (((Int) × (api_Node) × (Int) × (Int) × (Int) × (Int) × (api_Sum) × Unit) ⊕ (((api_Node) × (Int) × (Int) × (Int) × (Int) × (api_Sum) × Unit) ⊕ (Unit))) :=
 let t0 : Bool := (decide ((s.1 : Int) < ((List.length s.2.1.2.2.2.1) : Int)))
 bif t0 then
  bif (decide ((0 : Int) ≤ s.1) && decide ((s.1 : Int) < (List.length s.2.1.2.2.2.1 : Int))) then
   let t1 : api_Sum := (List.getD s.2.1.2.2.2.1 (Int.toNat s.1) (((0 : Int), ((0 : Int), ())), (((0 : Int), ((0 : Int), ())), ())))
   match ref10_Plus (s.2.2.2.2.2.2.1, t1, ()) with
   | none => none
   | some r2 =>
    some (.inl ((IntKind.i64.wrap (s.1 + (1 : Int))), s.2.1, s.2.2.1, s.2.2.2.1, s.2.2.2.2.1, s.2.2.2.2.2.1, r2.1, ()))
  else
   none
 else
  some (.inr (.inl (s.2.1, s.2.2.1, s.2.2.2.1, s.2.2.2.2.1, s.2.2.2.2.2.1, s.2.2.2.2.2.2.1, ())))
def ref10_Sum_l0 (s : (Int) × (api_Node) × (Int) × (Int) × (Int) × (Int) × (api_Sum) × Unit) : Option (((api_Node) × (Int) × (Int) × (Int) × (Int) × (api_Sum) × Unit) ⊕ (Unit)) := loopO (ref10_Sum_b0) s
def ref10_Sum_b1 (s : (Int) × (api_Node) × (Int) × (Int) × (Int) × (Int) × (api_Sum) × Unit) : Option (((Int) × (api_Node) × (Int) × (Int) × (Int) × (Int) × (api_Sum) × Unit) ⊕ (((Int) × (Int) × (Int) × (Int) × (api_Sum) × Unit) ⊕ (Unit))) :=
 let t0 : Bool := (decide ((s.1 : Int) < ((List.length s.2.1.2.2.2.2.1) : Int)))
 bif t0 then
  bif (decide ((0 : Int) ≤ s.1) && decide ((s.1 : Int) < (List.length s.2.1.2.2.2.2.1 : Int))) then
   let t1 : api_Msg := (List.getD s.2.1.2.2.2.2.1 (Int.toNat s.1) ((0 : Int), (([] : List UInt8), (([] : List UInt8), ((([] : List UInt8), (([] : List UInt8), ())), (([] : List UInt8), (([] : List UInt8), ((0 : Int), ()))))))))
   match ref10_change (s.2.2.2.2.2.2.1, t1, ()) with
   | none => none
   | some r2 =>
    some (.inl ((IntKind.i64.wrap (s.1 + (1 : Int))), s.2.1, s.2.2.1, s.2.2.2.1, s.2.2.2.2.1, s.2.2.2.2.2.1, r2.1, ()))
  else
   none
 else
  some (.inr (.inl (s.2.2.1, s.2.2.2.1, s.2.2.2.2.1, s.2.2.2.2.2.1, s.2.2.2.2.2.2.1, ())))
def ref10_Sum_l1 (s : (Int) × (api_Node) × (Int) × (Int) × (Int) × (Int) × (api_Sum) × Unit) : Option (((Int) × (Int) × (Int) × (Int) × (api_Sum) × Unit) ⊕ (Unit)) := loopO (ref10_Sum_b1) s
def ref10_Sum (s : (api_Node) × Unit) : Option ((api_Sum) × Unit) :=
 let t0 : Bool := (decide ((((List.length s.1.2.2.1) : Int) : Int) = (0 : Int)))
 bif t0 then
  match ref03_Total (s.1.1, ()) with
  | none => none
  | some r1 =>
   match ref10_Exact (r1.1, ()) with
   | none => none
   | some r2 =>
    some (r2.1, ())
 else
  match ref10_Sum_l0 ((0 : Int), s.1, (0 : Int), (0 : Int), (0 : Int), (0 : Int), (((0 : Int), ((0 : Int), ())), (((0 : Int), ((0 : Int), ())), ())), ()) with
  | none => none
  | some (.inl z1) =>
   match ref10_Sum_l1 ((0 : Int), z1.1, z1.2.1, z1.2.2.1, z1.2.2.2.1, z1.2.2.2.2.1, z1.2.2.2.2.2.1, ()) with
   | none => none
   | some (.inl z2) =>
    some (z2.2.2.2.2.1, ())
   | some (.inr z2) =>
    none
  | some (.inr z1) =>
   none
def ref11_Used_v2 (s : (Int) × (List (api_Slot)) × Unit) : Option ((Bool) × (List (api_Slot)) × Unit) :=
 bif (decide ((s.1 : Int) ≥ (0 : Int))) then
  let t0 : Bool := (decide ((s.1 : Int) < ((List.length s.2.1) : Int)))
  bif t0 then
   bif (decide ((0 : Int) ≤ s.1) && decide ((s.1 : Int) < (List.length s.2.1 : Int))) then
    let t1 : api_Slot := (List.getD s.2.1 (Int.toNat s.1) (false, (false, ((0 : Int), ((([] : List (api_Pair)), (([] : List (List UInt8)), (([] : List (Int)), (([] : List (api_Sum)), (([] : List (api_Msg)), ()))))), ())))))
    some (t1.1, s.2.1, ())
   else
    none
  else
   some (false, s.2.1, ())
 else
  some (false, s.2.1, ())
def ref11_Drop_b0 (s : (List (Int)) × (List (api_Slot)) × (List (api_Slot)) × Unit) : Option (((List (Int)) × (List (api_Slot)) × (List (api_Slot)) × Unit) ⊕ (((List (api_Slot)) × (List (api_Slot)) × Unit) ⊕ (Unit))) :=
 let t0 : Bool := (decide ((((List.length s.1) : Int) : Int) > (0 : Int)))
 bif t0 then
  bif (decide (((0 : Int) : Int) < (List.length s.1 : Int))) then
   bif (decide (((1 : Int) : Int) ≤ (List.length s.1 : Int)) && decide (((List.length s.1 : Int) : Int) ≤ (List.length s.1 : Int))) then
    let t1 : List (Int) := (List.drop (Int.toNat (1 : Int)) (List.take (Int.toNat (List.length s.1 : Int)) s.1))
    match ref11_Used_v2 ((List.getD s.1 0 (0 : Int)), s.2.2.1, ()) with
    | none => none
    | some r2 =>
     bif (!r2.1) then
      some (.inl (t1, s.2.1, r2.2.1, ()))
     else
      bif (decide ((0 : Int) ≤ (List.getD s.1 0 (0 : Int))) && decide (((List.getD s.1 0 (0 : Int)) : Int) < (List.length r2.2.1 : Int))) then
       let t3 : api_Slot := (List.getD r2.2.1 (Int.toNat (List.getD s.1 0 (0 : Int))) (false, (false, ((0 : Int), ((([] : List (api_Pair)), (([] : List (List UInt8)), (([] : List (Int)), (([] : List (api_Sum)), (([] : List (api_Msg)), ()))))), ())))))
       let t4 : Int := (IntKind.i64.wrap (t3.2.2.1 - (1 : Int)))
       bif (decide ((0 : Int) ≤ (List.getD s.1 0 (0 : Int))) && decide (((List.getD s.1 0 (0 : Int)) : Int) < (List.length r2.2.1 : Int))) then
        let t5 : List (api_Slot) := (List.set r2.2.1 (Int.toNat (List.getD s.1 0 (0 : Int))) ((List.getD r2.2.1 (Int.toNat (List.getD s.1 0 (0 : Int))) (false, (false, ((0 : Int), ((([] : List (api_Pair)), (([] : List (List UInt8)), (([] : List (Int)), (([] : List (api_Sum)), (([] : List (api_Msg)), ()))))), ()))))).1, ((List.getD r2.2.1 (Int.toNat (List.getD s.1 0 (0 : Int))) (false, (false, ((0 : Int), ((([] : List (api_Pair)), (([] : List (List UInt8)), (([] : List (Int)), (([] : List (api_Sum)), (([] : List (api_Msg)), ()))))), ()))))).2.1, (t4, (List.getD r2.2.1 (Int.toNat (List.getD s.1 0 (0 : Int))) (false, (false, ((0 : Int), ((([] : List (api_Pair)), (([] : List (List UInt8)), (([] : List (Int)), (([] : List (api_Sum)), (([] : List (api_Msg)), ()))))), ()))))).2.2.2))))
        bif (decide ((0 : Int) ≤ (List.getD s.1 0 (0 : Int))) && decide (((List.getD s.1 0 (0 : Int)) : Int) < (List.length t5 : Int))) then
         let t6 : api_Slot := (List.getD t5 (Int.toNat (List.getD s.1 0 (0 : Int))) (false, (false, ((0 : Int), ((([] : List (api_Pair)), (([] : List (List UInt8)), (([] : List (Int)), (([] : List (api_Sum)), (([] : List (api_Msg)), ()))))), ())))))
         bif (decide ((t6.2.2.1 : Int) = (0 : Int))) then
          bif (decide ((List.length ([] : List (Int)) + List.length t1) * 8 ≤ roomMax)) then
           bif (decide ((0 : Int) ≤ (List.getD s.1 0 (0 : Int))) && decide (((List.getD s.1 0 (0 : Int)) : Int) < (List.length t5 : Int))) then
            let t7 : api_Slot := (List.getD t5 (Int.toNat (List.getD s.1 0 (0 : Int))) (false, (false, ((0 : Int), ((([] : List (api_Pair)), (([] : List (List UInt8)), (([] : List (Int)), (([] : List (api_Sum)), (([] : List (api_Msg)), ()))))), ())))))
            bif (decide ((List.length (([] : List (Int)) ++ t1) + List.length t7.2.2.2.1.2.2.1) * 8 ≤ roomMax)) then
             let t8 : List (Int) := ((([] : List (Int)) ++ t1) ++ t7.2.2.2.1.2.2.1)
             bif (decide ((0 : Int) ≤ (List.getD s.1 0 (0 : Int))) && decide (((List.getD s.1 0 (0 : Int)) : Int) < (List.length t5 : Int))) then
              let t9 : List (api_Slot) := (List.set t5 (Int.toNat (List.getD s.1 0 (0 : Int))) (false, (false, ((0 : Int), ((([] : List (api_Pair)), (([] : List (List UInt8)), (([] : List (Int)), (([] : List (api_Sum)), (([] : List (api_Msg)), ()))))), ())))))
              some (.inl (t8, s.2.1, t9, ()))
             else
              none
            else
             none
           else
            none
          else
           none
         else
          some (.inl (t1, s.2.1, t5, ()))
        else
         none
       else
        none
      else
       none
   else
    none
  else
   none
 else
  some (.inr (.inl (s.2.1, s.2.2.1, ())))
def ref11_Drop_l0 (s : (List (Int)) × (List (api_Slot)) × (List (api_Slot)) × Unit) : Option (((List (api_Slot)) × (List (api_Slot)) × Unit) ⊕ (Unit)) := loopO (ref11_Drop_b0) s
def ref11_Drop (s : ref12_built) : Option (ref12_built) :=
 match ref11_Used (s.1, s.2.1, ()) with
 | none => none
 | some r0 =>
  bif (!r0.1) then
   some (s.1, (110 : Int), ())
  else
   match ref11_Copied (s.1, ()) with
   | none => none
   | some r1 =>
    match ref11_Drop_l0 (([s.2.1] : List (Int)), ([] : List (api_Slot)), r1.1, ()) with
    | none => none
    | some (.inl z2) =>
     some ((z2.2.1, ()), (0 : Int), ())
    | some (.inr z2) =>
     none
def ref12_Of_b0 (s : (List (api_Pair)) × (Int) × (List (api_Slot)) × (Int) × (Int) × (Int) × (Int) × (List (api_Pair)) × (List (List UInt8)) × (List (api_Msg)) × (List (api_Span)) × (api_Pool) × (List (Int)) × (List (api_Sum)) × Unit) : Option (((List (api_Pair)) × (Int) × (List (api_Slot)) × (Int) × (Int) × (Int) × (Int) × (List (api_Pair)) × (List (List UInt8)) × (List (api_Msg)) × (List (api_Span)) × (api_Pool) × (List (Int)) × (List (api_Sum)) × Unit) ⊕ (((List (api_Slot)) × (Int) × (Int) × (Int) × (Int) × (List (api_Pair)) × (List (List UInt8)) × (List (api_Msg)) × (api_Pool) × (List (Int)) × (List (api_Sum)) × Unit) ⊕ (Unit))) :=
 let t0 : Int := ((List.length s.2.2.2.2.2.2.2.2.2.2.1) : Int)
 bif (decide ((s.2.1 : Int) < t0)) then
  bif (decide ((0 : Int) ≤ s.2.1) && decide ((s.2.1 : Int) < (List.length s.2.2.2.2.2.2.2.2.2.2.1 : Int))) then
   let t1 : api_Span := (List.getD s.2.2.2.2.2.2.2.2.2.2.1 (Int.toNat s.2.1) (([] : List UInt8), (([] : List UInt8), ())))
   match ref04_Range (s.1, t1, ()) with
   | none => none
   | some r2 =>
    match ref11_Add (s.2.2.2.2.2.2.2.2.2.2.2.1, (r2.1, (([] : List (List UInt8)), (([] : List (Int)), (([] : List (api_Sum)), (([] : List (api_Msg)), ()))))), ()) with
    | none => none
    | some r3 =>
     bif (decide ((List.length s.2.2.2.2.2.2.2.2.2.2.2.2.1 + List.length ([r3.1.2.1] : List (Int))) * 8 ≤ roomMax)) then
      let t4 : List (Int) := (s.2.2.2.2.2.2.2.2.2.2.2.2.1 ++ ([r3.1.2.1] : List (Int)))
      match ref10_Sum ((r2.1, (([] : List (List UInt8)), (([] : List (Int)), (([] : List (api_Sum)), (([] : List (api_Msg)), ()))))), ()) with
      | none => none
      | some r5 =>
       bif (decide ((List.length s.2.2.2.2.2.2.2.2.2.2.2.2.2.1 + List.length ([r5.1] : List (api_Sum))) * 32 ≤ roomMax)) then
        let t6 : List (api_Sum) := (s.2.2.2.2.2.2.2.2.2.2.2.2.2.1 ++ ([r5.1] : List (api_Sum)))
        some (.inl (s.1, (IntKind.i64.wrap (s.2.1 + (1 : Int))), s.2.2.1, s.2.2.2.1, s.2.2.2.2.1, s.2.2.2.2.2.1, s.2.2.2.2.2.2.1, s.2.2.2.2.2.2.2.1, s.2.2.2.2.2.2.2.2.1, s.2.2.2.2.2.2.2.2.2.1, s.2.2.2.2.2.2.2.2.2.2.1, r3.1.1, t4, t6, ()))
       else
        none
     else
      none
  else
   none
 else
  some (.inr (.inl (s.2.2.1, s.2.2.2.1, s.2.2.2.2.1, s.2.2.2.2.2.1, s.2.2.2.2.2.2.1, s.2.2.2.2.2.2.2.1, s.2.2.2.2.2.2.2.2.1, s.2.2.2.2.2.2.2.2.2.1, s.2.2.2.2.2.2.2.2.2.2.2.1, s.2.2.2.2.2.2.2.2.2.2.2.2.1, s.2.2.2.2.2.2.2.2.2.2.2.2.2.1, ())))
def ref12_Of_l0 (s : (List (api_Pair)) × (Int) × (List (api_Slot)) × (Int) × (Int) × (Int) × (Int) × (List (api_Pair)) × (List (List UInt8)) × (List (api_Msg)) × (List (api_Span)) × (api_Pool) × (List (Int)) × (List (api_Sum)) × Unit) : Option (((List (api_Slot)) × (Int) × (Int) × (Int) × (Int) × (List (api_Pair)) × (List (List UInt8)) × (List (api_Msg)) × (api_Pool) × (List (Int)) × (List (api_Sum)) × Unit) ⊕ (Unit)) := loopO (ref12_Of_b0) s
def ref12_Of_b1 (s : (Int) × (List (api_Slot)) × (Int) × (Int) × (Int) × (Int) × (List (api_Pair)) × (List (List UInt8)) × (List (api_Msg)) × (api_Pool) × (ref11_Added) × (List (Int)) × (List (api_Sum)) × Unit) : Option (((Int) × (List (api_Slot)) × (Int) × (Int) × (Int) × (Int) × (List (api_Pair)) × (List (List UInt8)) × (List (api_Msg)) × (api_Pool) × (ref11_Added) × (List (Int)) × (List (api_Sum)) × Unit) ⊕ (((List (api_Slot)) × (Int) × (Int) × (Int) × (Int) × (api_Pool) × (ref11_Added) × Unit) ⊕ (Unit))) :=
 let t0 : Int := ((List.length s.2.2.2.2.2.2.2.2.2.2.2.1) : Int)
 bif (decide ((s.1 : Int) < t0)) then
  bif (decide ((0 : Int) ≤ s.1) && decide ((s.1 : Int) < (List.length s.2.2.2.2.2.2.2.2.2.2.2.1 : Int))) then
   let t1 : Int := (List.getD s.2.2.2.2.2.2.2.2.2.2.2.1 (Int.toNat s.1) (0 : Int))
   match ref11_Drop (s.2.2.2.2.2.2.2.2.2.1, t1, ()) with
   | none => none
   | some r2 =>
    some (.inl ((IntKind.i64.wrap (s.1 + (1 : Int))), s.2.1, s.2.2.1, s.2.2.2.1, s.2.2.2.2.1, s.2.2.2.2.2.1, s.2.2.2.2.2.2.1, s.2.2.2.2.2.2.2.1, s.2.2.2.2.2.2.2.2.1, r2.1, s.2.2.2.2.2.2.2.2.2.2.1, s.2.2.2.2.2.2.2.2.2.2.2.1, s.2.2.2.2.2.2.2.2.2.2.2.2.1, ()))
  else
   none
 else
  some (.inr (.inl (s.2.1, s.2.2.1, s.2.2.2.1, s.2.2.2.2.1, s.2.2.2.2.2.1, s.2.2.2.2.2.2.2.2.2.1, s.2.2.2.2.2.2.2.2.2.2.1, ())))
def ref12_Of_l1 (s : (Int) × (List (api_Slot)) × (Int) × (Int) × (Int) × (Int) × (List (api_Pair)) × (List (List UInt8)) × (List (api_Msg)) × (api_Pool) × (ref11_Added) × (List (Int)) × (List (api_Sum)) × Unit) : Option (((List (api_Slot)) × (Int) × (Int) × (Int) × (Int) × (api_Pool) × (ref11_Added) × Unit) ⊕ (Unit)) := loopO (ref12_Of_b1) s
def ref12_Of (s : (List (api_Pair)) × (List (List UInt8)) × (List (api_Msg)) × Unit) : Option ((api_Tree) × Unit) :=
 let t0 : Int := (IntKind.i64.wrap (((List.length s.2.1) : Int) + (1 : Int)))
 bif (decide ((0 : Int) ≤ t0) && decide ((t0 : Int) ≤ t0) && decide (t0 * (8 : Int) ≤ (roomMax : Int))) then
  match ref10_Spans ((([] : List (api_Pair)), (s.2.1, ((List.replicate (Int.toNat t0) (0 : Int)), (([] : List (api_Sum)), (([] : List (api_Msg)), ()))))), (([] : List UInt8), (([] : List UInt8), ())), ()) with
  | none => none
  | some r1 =>
   match ref12_Of_l0 (s.1, (0 : Int), ([] : List (api_Slot)), (0 : Int), (0 : Int), (0 : Int), (0 : Int), ([] : List (api_Pair)), s.2.1, s.2.2.1, r1.1, (([] : List (api_Slot)), ()), ([] : List (Int)), ([] : List (api_Sum)), ()) with
   | none => none
   | some (.inl z2) =>
    match ref11_Add (z2.2.2.2.2.2.2.2.2.1, (z2.2.2.2.2.2.1, (z2.2.2.2.2.2.2.1, (z2.2.2.2.2.2.2.2.2.2.1, (z2.2.2.2.2.2.2.2.2.2.2.1, (z2.2.2.2.2.2.2.2.1, ()))))), ()) with
    | none => none
    | some r3 =>
     match ref12_Of_l1 ((0 : Int), z2.1, z2.2.1, z2.2.2.1, z2.2.2.2.1, z2.2.2.2.2.1, z2.2.2.2.2.2.1, z2.2.2.2.2.2.2.1, z2.2.2.2.2.2.2.2.1, r3.1.1, r3.1, z2.2.2.2.2.2.2.2.2.2.1, z2.2.2.2.2.2.2.2.2.2.2.1, ()) with
     | none => none
     | some (.inl z4) =>
      some ((z4.2.2.2.2.2.1, (z4.2.2.2.2.2.2.1.2.1, (((4 : Int), ((4 : Int), ((4 : Int), ()))), ()))), ())
     | some (.inr z4) =>
      none
   | some (.inr z2) =>
    none
 else
  none
def pool_used (s : ref12_built) : Option ((Bool) × Unit) :=
 bif (decide ((s.2.1 : Int) ≥ (0 : Int))) then
  let t0 : Bool := (decide ((s.2.1 : Int) < ((List.length s.1.1) : Int)))
  bif t0 then
   bif (decide ((0 : Int) ≤ s.2.1) && decide ((s.2.1 : Int) < (List.length s.1.1 : Int))) then
    let t1 : api_Slot := (List.getD s.1.1 (Int.toNat s.2.1) (false, (false, ((0 : Int), ((([] : List (api_Pair)), (([] : List (List UInt8)), (([] : List (Int)), (([] : List (api_Sum)), (([] : List (api_Msg)), ()))))), ())))))
    some (t1.1, ())
   else
    none
  else
   some (false, ())
 else
  some (false, ())
def pool_Get (s : ref12_built) : Option ((api_Node) × (Int) × Unit) :=
 match pool_used (s.1, s.2.1, ()) with
 | none => none
 | some r0 =>
  bif (!r0.1) then
   some ((([] : List (api_Pair)), (([] : List (List UInt8)), (([] : List (Int)), (([] : List (api_Sum)), (([] : List (api_Msg)), ()))))), (110 : Int), ())
  else
   bif (decide ((0 : Int) ≤ s.2.1) && decide ((s.2.1 : Int) < (List.length s.1.1 : Int))) then
    let t1 : api_Slot := (List.getD s.1.1 (Int.toNat s.2.1) (false, (false, ((0 : Int), ((([] : List (api_Pair)), (([] : List (List UInt8)), (([] : List (Int)), (([] : List (api_Sum)), (([] : List (api_Msg)), ()))))), ())))))
    bif t1.2.1 then
     some ((([] : List (api_Pair)), (([] : List (List UInt8)), (([] : List (Int)), (([] : List (api_Sum)), (([] : List (api_Msg)), ()))))), (112 : Int), ())
    else
     bif (decide ((0 : Int) ≤ s.2.1) && decide ((s.2.1 : Int) < (List.length s.1.1 : Int))) then
      let t2 : api_Slot := (List.getD s.1.1 (Int.toNat s.2.1) (false, (false, ((0 : Int), ((([] : List (api_Pair)), (([] : List (List UInt8)), (([] : List (Int)), (([] : List (api_Sum)), (([] : List (api_Msg)), ()))))), ())))))
      some (t2.2.2.2.1, (0 : Int), ())
     else
      none
   else
    none
def slices_Grow_api_Msg_api_Msg (s : (Int) × Unit) : Option ((List (api_Msg)) × Unit) :=
 bif (decide ((s.1 : Int) < (0 : Int))) then
  none
 else
  let t0 : Int := (IntKind.i64.wrap ((0 : Int) - (0 : Int)))
  let t1 : Bool := (decide (((IntKind.i64.wrap (s.1 - t0)) : Int) > (0 : Int)))
  bif t1 then
   bif (decide ((0 : Int) < (IntKind.i64.wrap (s.1 - t0))) && decide ((IntKind.i64.wrap (s.1 - t0)) * (112 : Int) ≤ (roomMax : Int))) then
    bif (decide (((0 : Int) : Int) ≤ (List.length (List.replicate (Int.toNat (IntKind.i64.wrap (s.1 - t0))) ((0 : Int), (([] : List UInt8), (([] : List UInt8), ((([] : List UInt8), (([] : List UInt8), ())), (([] : List UInt8), (([] : List UInt8), ((0 : Int), ())))))))) : Int))) then
     let t2 : List (api_Msg) := (List.take 0 (List.replicate (Int.toNat (IntKind.i64.wrap (s.1 - t0))) ((0 : Int), (([] : List UInt8), (([] : List UInt8), ((([] : List UInt8), (([] : List UInt8), ())), (([] : List UInt8), (([] : List UInt8), ((0 : Int), ())))))))))
     some (t2, ())
    else
     none
   else
    none
  else
   some (([] : List (api_Msg)), ())
def slices_Concat_api_Msg_api_Msg_b0 (s : (List (List (api_Msg))) × (Int) × (List (List (api_Msg))) × (Int) × (Int) × Unit) : Option (((List (List (api_Msg))) × (Int) × (List (List (api_Msg))) × (Int) × (Int) × Unit) ⊕ (((List (List (api_Msg))) × (Int) × Unit) ⊕ (Unit))) :=
 let t0 : Bool := (decide ((s.2.2.2.2.1 : Int) < s.2.2.2.1))
 bif t0 then
  bif (decide ((0 : Int) ≤ s.2.2.2.2.1) && decide ((s.2.2.2.2.1 : Int) < (List.length s.2.2.1 : Int))) then
   let t1 : List (api_Msg) := (List.getD s.2.2.1 (Int.toNat s.2.2.2.2.1) ([] : List (api_Msg)))
   let t2 : Int := (IntKind.i64.wrap (s.2.1 + ((List.length t1) : Int)))
   bif (decide ((t2 : Int) < (0 : Int))) then
    none
   else
    let t3 : Int := (IntKind.i64.wrap (s.2.2.2.2.1 + (1 : Int)))
    some (.inl (s.1, t2, s.2.2.1, s.2.2.2.1, t3, ()))
  else
   none
 else
  some (.inr (.inl (s.1, s.2.1, ())))
def slices_Concat_api_Msg_api_Msg_l0 (s : (List (List (api_Msg))) × (Int) × (List (List (api_Msg))) × (Int) × (Int) × Unit) : Option (((List (List (api_Msg))) × (Int) × Unit) ⊕ (Unit)) := loopO (slices_Concat_api_Msg_api_Msg_b0) s
def slices_Concat_api_Msg_api_Msg_b1 (s : (List (List (api_Msg))) × (Int) × (Int) × (List (api_Msg)) × Unit) : Option (((List (List (api_Msg))) × (Int) × (Int) × (List (api_Msg)) × Unit) ⊕ (((List (api_Msg)) × Unit) ⊕ (Unit))) :=
 bif (decide ((s.2.2.1 : Int) < s.2.1)) then
  bif (decide ((0 : Int) ≤ s.2.2.1) && decide ((s.2.2.1 : Int) < (List.length s.1 : Int))) then
   let t0 : List (api_Msg) := (List.getD s.1 (Int.toNat s.2.2.1) ([] : List (api_Msg)))
   bif (decide ((List.length s.2.2.2.1 + List.length t0) * 112 ≤ roomMax)) then
    some (.inl (s.1, s.2.1, (IntKind.i64.wrap (s.2.2.1 + (1 : Int))), (s.2.2.2.1 ++ t0), ()))
   else
    none
  else
   none
 else
  some (.inr (.inl (s.2.2.2.1, ())))
def slices_Concat_api_Msg_api_Msg_l1 (s : (List (List (api_Msg))) × (Int) × (Int) × (List (api_Msg)) × Unit) : Option (((List (api_Msg)) × Unit) ⊕ (Unit)) := loopO (slices_Concat_api_Msg_api_Msg_b1) s
def slices_Concat_api_Msg_api_Msg (s : (List (List (api_Msg))) × Unit) : Option ((List (api_Msg)) × Unit) :=
 match slices_Concat_api_Msg_api_Msg_l0 (s.1, (0 : Int), s.1, ((List.length s.1) : Int), (0 : Int), ()) with
 | none => none
 | some (.inl z0) =>
  match slices_Grow_api_Msg_api_Msg (z0.2.1, ()) with
  | none => none
  | some r1 =>
   match slices_Concat_api_Msg_api_Msg_l1 (z0.1, ((List.length z0.1) : Int), (0 : Int), r1.1, ()) with
   | none => none
   | some (.inl z2) =>
    some (z2.1, ())
   | some (.inr z2) =>
    none
 | some (.inr z0) =>
  none
def cmp_isNaN_span_end (s : (List UInt8) × Unit) : Option ((Bool) × Unit) :=
 some ((!decide ((s.1 : List UInt8) = s.1)), ())
def cmp_Compare_span_end (s : api_Span) : Option ((Int) × Unit) :=
 match cmp_isNaN_span_end (s.1, ()) with
 | none => none
 | some r0 =>
  match cmp_isNaN_span_end (s.2.1, ()) with
  | none => none
  | some r1 =>
   bif r0.1 then
    bif r1.1 then
     some ((0 : Int), ())
    else
     some ((-1 : Int), ())
   else
    bif r1.1 then
     some ((1 : Int), ())
    else
     bif (Op.bytesLess s.1 s.2.1) then
      some ((-1 : Int), ())
     else
      let t2 : Bool := (!(Op.bytesLess s.1 s.2.1 || decide ((s.1 : List UInt8) = s.2.1)))
      bif t2 then
       some ((1 : Int), ())
      else
       some ((0 : Int), ())
def span_end_compare (s : api_Span) : Option ((Int) × Unit) :=
 bif (decide ((s.1 : List UInt8) = s.2.1)) then
  some ((0 : Int), ())
 else
  let t0 : Bool := (decide ((s.1 : List UInt8) = ([] : List UInt8)))
  bif t0 then
   some ((1 : Int), ())
  else
   let t1 : Bool := (decide ((s.2.1 : List UInt8) = ([] : List UInt8)))
   bif t1 then
    some ((-1 : Int), ())
   else
    match cmp_Compare_span_end (s.1, s.2.1, ()) with
    | none => none
    | some r2 =>
     some (r2.1, ())
def slices_MinFunc_span_end_span_end_b0 (s : (List (List UInt8)) × (List UInt8) × (Int) × Unit) : Option (((List (List UInt8)) × (List UInt8) × (Int) × Unit) ⊕ (((List UInt8) × Unit) ⊕ (Unit))) :=
 let t0 : Bool := (decide ((s.2.2.1 : Int) < ((List.length s.1) : Int)))
 bif t0 then
  bif (decide ((0 : Int) ≤ s.2.2.1) && decide ((s.2.2.1 : Int) < (List.length s.1 : Int))) then
   let t1 : List UInt8 := (List.getD s.1 (Int.toNat s.2.2.1) ([] : List UInt8))
   match span_end_compare (t1, s.2.1, ()) with
   | none => none
   | some r2 =>
    bif (decide ((r2.1 : Int) < (0 : Int))) then
     bif (decide ((0 : Int) ≤ s.2.2.1) && decide ((s.2.2.1 : Int) < (List.length s.1 : Int))) then
      let t3 : List UInt8 := (List.getD s.1 (Int.toNat s.2.2.1) ([] : List UInt8))
      some (.inl (s.1, t3, (IntKind.i64.wrap (s.2.2.1 + (1 : Int))), ()))
     else
      none
    else
     some (.inl (s.1, s.2.1, (IntKind.i64.wrap (s.2.2.1 + (1 : Int))), ()))
  else
   none
 else
  some (.inr (.inl (s.2.1, ())))
def slices_MinFunc_span_end_span_end_l0 (s : (List (List UInt8)) × (List UInt8) × (Int) × Unit) : Option (((List UInt8) × Unit) ⊕ (Unit)) := loopO (slices_MinFunc_span_end_span_end_b0) s
def slices_MinFunc_span_end_span_end (s : (List (List UInt8)) × Unit) : Option ((List UInt8) × Unit) :=
 let t0 : Bool := (decide ((((List.length s.1) : Int) : Int) < (1 : Int)))
 bif t0 then
  none
 else
  bif (decide (((0 : Int) : Int) < (List.length s.1 : Int))) then
   match slices_MinFunc_span_end_span_end_l0 (s.1, (List.getD s.1 0 ([] : List UInt8)), (1 : Int), ()) with
   | none => none
   | some (.inl z1) =>
    some (z1.1, ())
   | some (.inr z1) =>
    none
  else
   none
def span_least (s : (List (List UInt8)) × Unit) : Option ((List UInt8) × Unit) :=
 match slices_MinFunc_span_end_span_end (s.1, ()) with
 | none => none
 | some r0 =>
  some (r0.1, ())
def span_Empty (s : (api_Span) × Unit) : Option ((Bool) × Unit) :=
 let t0 : Bool := (!decide ((s.1.2.1 : List UInt8) = ([] : List UInt8)))
 bif t0 then
  let t1 : Bool := (Op.bytesLess s.1.2.1 s.1.1 || decide ((s.1.2.1 : List UInt8) = s.1.1))
  some (t1, ())
 else
  some (false, ())
def span_Meet (s : (api_Span) × (api_Span) × Unit) : Option ((api_Span) × Unit) :=
 let t0 : List UInt8 := (bif !(Op.bytesLess s.1.1 s.2.1.1) then s.1.1 else s.2.1.1)
 match span_least (([s.1.2.1, s.2.1.2.1] : List (List UInt8)), ()) with
 | none => none
 | some r1 =>
  match span_Empty ((t0, (r1.1, ())), ()) with
  | none => none
  | some r2 =>
   bif r2.1 then
    some ((([97] : List UInt8), (([97] : List UInt8), ())), ())
   else
    some ((t0, (r1.1, ())), ())
def span_Parts_b0 (s : (List UInt8) × (List (List UInt8)) × (Int) × (Int) × (api_Span) × (List (api_Span)) × Unit) : Option (((List UInt8) × (List (List UInt8)) × (Int) × (Int) × (api_Span) × (List (api_Span)) × Unit) ⊕ (((List UInt8) × (api_Span) × (List (api_Span)) × Unit) ⊕ (Unit))) :=
 bif (decide ((s.2.2.2.1 : Int) < s.2.2.1)) then
  bif (decide ((0 : Int) ≤ s.2.2.2.1) && decide ((s.2.2.2.1 : Int) < (List.length s.2.1 : Int))) then
   let t0 : List UInt8 := (List.getD s.2.1 (Int.toNat s.2.2.2.1) ([] : List UInt8))
   match span_Meet (s.2.2.2.2.1, (s.1, (t0, ())), ()) with
   | none => none
   | some r1 =>
    bif (decide ((List.length s.2.2.2.2.2.1 + List.length ([r1.1] : List (api_Span))) * 32 ≤ roomMax)) then
     let t2 : List (api_Span) := (s.2.2.2.2.2.1 ++ ([r1.1] : List (api_Span)))
     let t3 : Int := (IntKind.i64.wrap (s.2.2.2.1 + (1 : Int)))
     some (.inl (t0, s.2.1, s.2.2.1, t3, s.2.2.2.2.1, t2, ()))
    else
     none
  else
   none
 else
  some (.inr (.inl (s.1, s.2.2.2.2.1, s.2.2.2.2.2.1, ())))
def span_Parts_l0 (s : (List UInt8) × (List (List UInt8)) × (Int) × (Int) × (api_Span) × (List (api_Span)) × Unit) : Option (((List UInt8) × (api_Span) × (List (api_Span)) × Unit) ⊕ (Unit)) := loopO (span_Parts_b0) s
def span_Parts (s : (api_Span) × (List (List UInt8)) × Unit) : Option ((List (api_Span)) × Unit) :=
 match span_Parts_l0 (([] : List UInt8), s.2.1, ((List.length s.2.1) : Int), (0 : Int), s.1, ([] : List (api_Span)), ()) with
 | none => none
 | some (.inl z0) =>
  match span_Meet (z0.2.1, (z0.1, (([] : List UInt8), ())), ()) with
  | none => none
  | some r1 =>
   bif (decide ((List.length z0.2.2.1 + List.length ([r1.1] : List (api_Span))) * 32 ≤ roomMax)) then
    let t2 : List (api_Span) := (z0.2.2.1 ++ ([r1.1] : List (api_Span)))
    some (t2, ())
   else
    none
 | some (.inr z0) =>
  none
def node_Spans (s : (api_Node) × (api_Span) × Unit) : Option ((List (api_Span)) × Unit) :=
 let t0 : Bool := (decide ((((List.length s.1.2.2.1) : Int) : Int) = (0 : Int)))
 bif t0 then
  some (([] : List (api_Span)), ())
 else
  match span_Parts (s.2.1, s.1.2.1, ()) with
  | none => none
  | some r1 =>
   some (r1.1, ())
def slices_Clone_api_Msg_api_Msg (s : (List (api_Msg)) × Unit) : Option ((List (api_Msg)) × Unit) := bif (decide ((List.length ([] : List (api_Msg)) + List.length s.1) * 112 ≤ roomMax)) then some (s.1, ()) else none
def span_One (s : (List UInt8) × Unit) : Option ((api_Span) × Unit) :=
 bif (decide (List.length s.1 + List.length ([0] : List UInt8) ≤ roomMax)) then
  some ((s.1, ((s.1 ++ ([0] : List UInt8)), ())), ())
 else
  none
def msg_put_writes (s : (api_Msg) × Unit) : Option ((List (api_Span)) × Unit) :=
 match span_One (s.1.2.1, ()) with
 | none => none
 | some r0 =>
  some (([r0.1] : List (api_Span)), ())
def msg_del_writes (s : (api_Msg) × Unit) : Option ((List (api_Span)) × Unit) :=
 match span_One (s.1.2.1, ()) with
 | none => none
 | some r0 =>
  some (([r0.1] : List (api_Span)), ())
def msg_drop_writes (s : (api_Msg) × Unit) : Option ((List (api_Span)) × Unit) :=
 some (([s.1.2.2.2.1] : List (api_Span)), ())
def span_Prefix_b0_j0 (s : (List UInt8) × (Bool) × (List UInt8) × (List UInt8) × (List (Int)) × Unit) : Option (((List UInt8) × (List UInt8) × (List UInt8) × (List (Int)) × Unit) ⊕ (((List UInt8) × (List UInt8) × (List UInt8) × (List (Int)) × Unit) ⊕ (Unit))) :=
 bif s.2.1 then
  let t0 : Int := (IntKind.i64.wrap (((List.length s.2.2.2.2.1) : Int) - (1 : Int)))
  bif (decide (((0 : Int) : Int) ≤ t0) && decide ((t0 : Int) ≤ (List.length s.2.2.2.2.1 : Int))) then
   some (.inl (s.1, s.2.2.1, s.2.2.2.1, (List.take (Int.toNat t0) s.2.2.2.2.1), ()))
  else
   none
 else
  some (.inr (.inl (s.1, s.2.2.1, s.2.2.2.1, s.2.2.2.2.1, ())))

def span_Prefix_b0 (s : (List UInt8) × (List UInt8) × (List UInt8) × (List (Int)) × Unit) : Option (((List UInt8) × (List UInt8) × (List UInt8) × (List (Int)) × Unit) ⊕ (((List UInt8) × (List UInt8) × (List UInt8) × (List (Int)) × Unit) ⊕ (Unit))) :=
 let t0 : Bool := (decide ((((List.length s.2.2.2.1) : Int) : Int) > (0 : Int)))
 bif t0 then
  let t1 : Int := (IntKind.i64.wrap (((List.length s.2.2.2.1) : Int) - (1 : Int)))
  bif (decide ((0 : Int) ≤ t1) && decide ((t1 : Int) < (List.length s.2.2.2.1 : Int))) then
   let t2 : Int := (List.getD s.2.2.2.1 (Int.toNat t1) (0 : Int))
   span_Prefix_b0_j0 (s.1, (decide ((t2 : Int) = (255 : Int))), s.2.1, s.2.2.1, s.2.2.2.1, ())
  else
   none
 else
  span_Prefix_b0_j0 (s.1, false, s.2.1, s.2.2.1, s.2.2.2.1, ())
def span_Prefix_l0 (s : (List UInt8) × (List UInt8) × (List UInt8) × (List (Int)) × Unit) : Option (((List UInt8) × (List UInt8) × (List UInt8) × (List (Int)) × Unit) ⊕ (Unit)) := loopO (span_Prefix_b0) s
def span_Prefix (s : (List UInt8) × Unit) : Option ((api_Span) × Unit) :=
 bif (decide (List.length s.1 ≤ roomMax)) then
  match span_Prefix_l0 (s.1, ([] : List UInt8), ([] : List UInt8), (bytesOfS s.1), ()) with
  | none => none
  | some (.inl z0) =>
   let t1 : Bool := (decide ((((List.length z0.2.2.2.1) : Int) : Int) > (0 : Int)))
   bif t1 then
    let t2 : Int := (IntKind.i64.wrap (((List.length z0.2.2.2.1) : Int) - (1 : Int)))
    bif (decide ((0 : Int) ≤ t2) && decide ((t2 : Int) < (List.length z0.2.2.2.1 : Int))) then
     let t3 : Int := (List.getD z0.2.2.2.1 (Int.toNat t2) (0 : Int))
     bif (decide ((0 : Int) ≤ t2) && decide ((t2 : Int) < (List.length z0.2.2.2.1 : Int))) then
      let t4 : List (Int) := (List.set z0.2.2.2.1 (Int.toNat t2) (IntKind.u8.wrap (t3 + (1 : Int))))
      some ((z0.1, ((sOfBytes t4), ())), ())
     else
      none
    else
     none
   else
    some ((z0.1, ((sOfBytes z0.2.2.2.1), ())), ())
  | some (.inr z0) =>
   none
 else
  none
def msg_move_writes (s : (api_Msg) × Unit) : Option ((List (api_Span)) × Unit) :=
 match span_Prefix (s.1.2.2.2.2.1, ()) with
 | none => none
 | some r0 =>
  match span_Prefix (s.1.2.2.2.2.2.1, ()) with
  | none => none
  | some r1 =>
   some (([r0.1, r1.1] : List (api_Span)), ())
def msg_clone_writes (s : (api_Msg) × Unit) : Option ((List (api_Span)) × Unit) :=
 match span_Prefix (s.1.2.2.2.2.2.1, ()) with
 | none => none
 | some r0 =>
  some (([r0.1] : List (api_Span)), ())
def msg_stamp_writes (s : (api_Msg) × Unit) : Option ((List (api_Span)) × Unit) :=
 some (([s.1.2.2.2.1] : List (api_Span)), ())
def msg_Writes (s : (api_Msg) × Unit) : Option ((List (api_Span)) × Unit) :=
 bif (decide ((s.1.1 : Int) = (1 : Int))) then
  match msg_put_writes (s.1, ()) with
  | none => none
  | some r0 =>
   some (r0.1, ())
 else
  bif (decide ((s.1.1 : Int) = (2 : Int))) then
   match msg_del_writes (s.1, ()) with
   | none => none
   | some r0 =>
    some (r0.1, ())
  else
   bif (decide ((s.1.1 : Int) = (3 : Int))) then
    match msg_drop_writes (s.1, ()) with
    | none => none
    | some r0 =>
     some (r0.1, ())
   else
    bif (decide ((s.1.1 : Int) = (4 : Int))) then
     match msg_move_writes (s.1, ()) with
     | none => none
     | some r0 =>
      some (r0.1, ())
    else
     bif (decide ((s.1.1 : Int) = (5 : Int))) then
      match msg_clone_writes (s.1, ()) with
      | none => none
      | some r0 =>
       some (r0.1, ())
     else
      bif (decide ((s.1.1 : Int) = (6 : Int))) then
       match msg_stamp_writes (s.1, ()) with
       | none => none
       | some r0 =>
        some (r0.1, ())
      else
       some (([] : List (api_Span)), ())
def cost_WeightC1C1C1 (s : (api_Span) × (api_Span) × Unit) : Option ((Bool) × (api_Span) × Unit) :=
 match span_Meet (s.1, s.2.1, ()) with
 | none => none
 | some r0 =>
  match span_Empty (r0.1, ()) with
  | none => none
  | some r1 =>
   some ((!r1.1), s.2.1, ())
def slices_IndexFunc_api_Span_api_Span_b0 (s : (List (api_Span)) × (Int) × (Int) × (api_Span) × Unit) : Option (((List (api_Span)) × (Int) × (Int) × (api_Span) × Unit) ⊕ (((Int) × (api_Span) × Unit) ⊕ ((api_Span) × Unit))) :=
 bif (decide ((s.2.2.1 : Int) < s.2.1)) then
  bif (decide ((0 : Int) ≤ s.2.2.1) && decide ((s.2.2.1 : Int) < (List.length s.1 : Int))) then
   let t0 : api_Span := (List.getD s.1 (Int.toNat s.2.2.1) (([] : List UInt8), (([] : List UInt8), ())))
   match cost_WeightC1C1C1 (t0, s.2.2.2.1, ()) with
   | none => none
   | some r1 =>
    bif r1.1 then
     some (.inr (.inl (s.2.2.1, r1.2.1, ())))
    else
     some (.inl (s.1, s.2.1, (IntKind.i64.wrap (s.2.2.1 + (1 : Int))), r1.2.1, ()))
  else
   none
 else
  some (.inr (.inr (s.2.2.2.1, ())))
def slices_IndexFunc_api_Span_api_Span_l0 (s : (List (api_Span)) × (Int) × (Int) × (api_Span) × Unit) : Option (((Int) × (api_Span) × Unit) ⊕ ((api_Span) × Unit)) := loopO (slices_IndexFunc_api_Span_api_Span_b0) s
def slices_IndexFunc_api_Span_api_Span (s : (List (api_Span)) × (api_Span) × Unit) : Option ((Int) × (api_Span) × Unit) :=
 match slices_IndexFunc_api_Span_api_Span_l0 (s.1, ((List.length s.1) : Int), (0 : Int), s.2.1, ()) with
 | none => none
 | some (.inl z0) =>
  some (z0.1, z0.2.1, ())
 | some (.inr z0) =>
  some ((-1 : Int), z0.1, ())
def slices_ContainsFunc_api_Span_api_Span (s : (List (api_Span)) × (api_Span) × Unit) : Option ((Bool) × (api_Span) × Unit) :=
 match slices_IndexFunc_api_Span_api_Span (s.1, s.2.1, ()) with
 | none => none
 | some r0 =>
  some ((decide ((r0.1 : Int) ≥ (0 : Int))), r0.2.1, ())
def cost_WeightC1C1 (s : (api_Msg) × (api_Span) × Unit) : Option ((Bool) × (api_Span) × Unit) :=
 match msg_Writes (s.1, ()) with
 | none => none
 | some r0 =>
  match slices_ContainsFunc_api_Span_api_Span (r0.1, s.2.1, ()) with
  | none => none
  | some r1 =>
   some ((!r1.1), r1.2.1, ())
def slices_IndexFunc_api_Msg_api_Msg_b0 (s : (Int) × (Int) × (List (api_Msg)) × (api_Span) × Unit) : Option (((Int) × (Int) × (List (api_Msg)) × (api_Span) × Unit) ⊕ (((Int) × (List (api_Msg)) × (api_Span) × Unit) ⊕ ((List (api_Msg)) × (api_Span) × Unit))) :=
 bif (decide ((s.2.1 : Int) < s.1)) then
  bif (decide ((0 : Int) ≤ s.2.1) && decide ((s.2.1 : Int) < (List.length s.2.2.1 : Int))) then
   let t0 : api_Msg := (List.getD s.2.2.1 (Int.toNat s.2.1) ((0 : Int), (([] : List UInt8), (([] : List UInt8), ((([] : List UInt8), (([] : List UInt8), ())), (([] : List UInt8), (([] : List UInt8), ((0 : Int), ()))))))))
   match cost_WeightC1C1 (t0, s.2.2.2.1, ()) with
   | none => none
   | some r1 =>
    bif r1.1 then
     some (.inr (.inl (s.2.1, s.2.2.1, r1.2.1, ())))
    else
     some (.inl (s.1, (IntKind.i64.wrap (s.2.1 + (1 : Int))), s.2.2.1, r1.2.1, ()))
  else
   none
 else
  some (.inr (.inr (s.2.2.1, s.2.2.2.1, ())))
def slices_IndexFunc_api_Msg_api_Msg_l0 (s : (Int) × (Int) × (List (api_Msg)) × (api_Span) × Unit) : Option (((Int) × (List (api_Msg)) × (api_Span) × Unit) ⊕ ((List (api_Msg)) × (api_Span) × Unit)) := loopO (slices_IndexFunc_api_Msg_api_Msg_b0) s
def slices_IndexFunc_api_Msg_api_Msg (s : (List (api_Msg)) × (api_Span) × Unit) : Option ((Int) × (List (api_Msg)) × (api_Span) × Unit) :=
 match slices_IndexFunc_api_Msg_api_Msg_l0 (((List.length s.1) : Int), (0 : Int), s.1, s.2.1, ()) with
 | none => none
 | some (.inl z0) =>
  some (z0.1, z0.2.1, z0.2.2.1, ())
 | some (.inr z0) =>
  some ((-1 : Int), z0.1, z0.2.1, ())
def slices_DeleteFunc_api_Msg_api_Msg_b0 (s : (Int) × (Int) × (List (api_Msg)) × (api_Span) × Unit) : Option (((Int) × (Int) × (List (api_Msg)) × (api_Span) × Unit) ⊕ (((Int) × (List (api_Msg)) × (api_Span) × Unit) ⊕ (Unit))) :=
 let t0 : Bool := (decide ((s.2.1 : Int) < ((List.length s.2.2.1) : Int)))
 bif t0 then
  bif (decide ((0 : Int) ≤ s.2.1) && decide ((s.2.1 : Int) < (List.length s.2.2.1 : Int))) then
   let t1 : api_Msg := (List.getD s.2.2.1 (Int.toNat s.2.1) ((0 : Int), (([] : List UInt8), (([] : List UInt8), ((([] : List UInt8), (([] : List UInt8), ())), (([] : List UInt8), (([] : List UInt8), ((0 : Int), ()))))))))
   match cost_WeightC1C1 (t1, s.2.2.2.1, ()) with
   | none => none
   | some r2 =>
    bif (!r2.1) then
     bif (decide ((0 : Int) ≤ s.1) && decide ((s.1 : Int) < (List.length s.2.2.1 : Int))) then
      some (.inl ((IntKind.i64.wrap (s.1 + (1 : Int))), (IntKind.i64.wrap (s.2.1 + (1 : Int))), (List.set s.2.2.1 (Int.toNat s.1) t1), r2.2.1, ()))
     else
      none
    else
     some (.inl (s.1, (IntKind.i64.wrap (s.2.1 + (1 : Int))), s.2.2.1, r2.2.1, ()))
  else
   none
 else
  some (.inr (.inl (s.1, s.2.2.1, s.2.2.2.1, ())))
def slices_DeleteFunc_api_Msg_api_Msg_l0 (s : (Int) × (Int) × (List (api_Msg)) × (api_Span) × Unit) : Option (((Int) × (List (api_Msg)) × (api_Span) × Unit) ⊕ (Unit)) := loopO (slices_DeleteFunc_api_Msg_api_Msg_b0) s
def slices_DeleteFunc_api_Msg_api_Msg (s : (List (api_Msg)) × (api_Span) × Unit) : Option ((api_Span) × (List (api_Msg)) × Unit) :=
 match slices_IndexFunc_api_Msg_api_Msg (s.1, s.2.1, ()) with
 | none => none
 | some r0 =>
  bif (decide ((r0.1 : Int) = (-1 : Int))) then
   some (r0.2.2.1, r0.2.1, ())
  else
   match slices_DeleteFunc_api_Msg_api_Msg_l0 (r0.1, (IntKind.i64.wrap (r0.1 + (1 : Int))), r0.2.1, r0.2.2.1, ()) with
   | none => none
   | some (.inl z1) =>
    bif (decide ((0 : Int) ≤ z1.1) && decide ((z1.1 : Int) ≤ (List.length z1.2.1 : Int)) && decide (((List.length z1.2.1 : Int) : Int) ≤ (List.length z1.2.1 : Int))) then
     let t2 : List (api_Msg) := (List.take (Int.toNat z1.1) z1.2.1 ++ List.replicate ((Int.toNat (List.length z1.2.1 : Int)) - (Int.toNat z1.1)) ((0 : Int), (([] : List UInt8), (([] : List UInt8), ((([] : List UInt8), (([] : List UInt8), ())), (([] : List UInt8), (([] : List UInt8), ((0 : Int), ()))))))) ++ List.drop ((Int.toNat z1.1) + ((Int.toNat (List.length z1.2.1 : Int)) - (Int.toNat z1.1))) z1.2.1)
     bif (decide (((0 : Int) : Int) ≤ z1.1) && decide ((z1.1 : Int) ≤ (List.length t2 : Int))) then
      some (z1.2.2.1, (List.take (Int.toNat z1.1) t2), ())
     else
      none
    else
     none
   | some (.inr z1) =>
    none
def cost_WeightC1_b0 (cost_WeightC1_r : ((Int) × (api_Span) × (List (api_Msg)) × (api_Tree) × (Int) × Unit) → Option ((Int) × (api_Tree) × (Int) × Unit)) (s : (Int) × (Int) × (api_Tree) × (Int) × (api_Node) × (List (api_Msg)) × (List (api_Span)) × Unit) : Option (((Int) × (Int) × (api_Tree) × (Int) × (api_Node) × (List (api_Msg)) × (List (api_Span)) × Unit) ⊕ (((Int) × (api_Tree) × (Int) × Unit) ⊕ ((api_Tree) × (Int) × Unit))) :=
 bif (decide ((s.2.1 : Int) < s.1)) then
  bif (decide ((0 : Int) ≤ s.2.1) && decide ((s.2.1 : Int) < (List.length s.2.2.2.2.2.2.1 : Int))) then
   let t0 : api_Span := (List.getD s.2.2.2.2.2.2.1 (Int.toNat s.2.1) (([] : List UInt8), (([] : List UInt8), ())))
   match slices_Clone_api_Msg_api_Msg (s.2.2.2.2.2.1, ()) with
   | none => none
   | some r1 =>
    match slices_DeleteFunc_api_Msg_api_Msg (r1.1, t0, ()) with
    | none => none
    | some r2 =>
     let t3 : Int := (IntKind.i64.wrap (s.2.2.2.1 + ((List.length r2.2.1) : Int)))
     bif (decide ((0 : Int) ≤ s.2.1) && decide ((s.2.1 : Int) < (List.length s.2.2.2.2.1.2.2.1 : Int))) then
      let t4 : Int := (List.getD s.2.2.2.2.1.2.2.1 (Int.toNat s.2.1) (0 : Int))
      match cost_WeightC1_r (t4, r2.1, r2.2.1, s.2.2.1, t3, ()) with
      | none => none
      | some r5 =>
       bif (!decide ((r5.1 : Int) = (0 : Int))) then
        some (.inr (.inl (r5.1, r5.2.1, r5.2.2.1, ())))
       else
        some (.inl (s.1, (IntKind.i64.wrap (s.2.1 + (1 : Int))), r5.2.1, r5.2.2.1, s.2.2.2.2.1, s.2.2.2.2.2.1, s.2.2.2.2.2.2.1, ()))
     else
      none
  else
   none
 else
  some (.inr (.inr (s.2.2.1, s.2.2.2.1, ())))
def cost_WeightC1_l0 (cost_WeightC1_r : ((Int) × (api_Span) × (List (api_Msg)) × (api_Tree) × (Int) × Unit) → Option ((Int) × (api_Tree) × (Int) × Unit)) (s : (Int) × (Int) × (api_Tree) × (Int) × (api_Node) × (List (api_Msg)) × (List (api_Span)) × Unit) : Option (((Int) × (api_Tree) × (Int) × Unit) ⊕ ((api_Tree) × (Int) × Unit)) := loopO (cost_WeightC1_b0 cost_WeightC1_r) s
def cost_WeightC1_step (cost_WeightC1_r : ((Int) × (api_Span) × (List (api_Msg)) × (api_Tree) × (Int) × Unit) → Option ((Int) × (api_Tree) × (Int) × Unit)) (s : (Int) × (api_Span) × (List (api_Msg)) × (api_Tree) × (Int) × Unit) : Option ((Int) × (api_Tree) × (Int) × Unit) :=
 match pool_Get (s.2.2.2.1.1, s.1, ()) with
 | none => none
 | some r0 =>
  bif (!decide ((r0.2.1 : Int) = (0 : Int))) then
   some (r0.2.1, s.2.2.2.1, s.2.2.2.2.1, ())
  else
   match slices_Concat_api_Msg_api_Msg (([s.2.2.1, r0.1.2.2.2.2.1] : List (List (api_Msg))), ()) with
   | none => none
   | some r1 =>
    match node_Spans (r0.1, s.2.1, ()) with
    | none => none
    | some r2 =>
     match cost_WeightC1_l0 cost_WeightC1_r (((List.length r2.1) : Int), (0 : Int), s.2.2.2.1, s.2.2.2.2.1, r0.1, r1.1, r2.1, ()) with
     | none => none
     | some (.inl z3) =>
      some (z3.1, z3.2.1, z3.2.2.1, ())
     | some (.inr z3) =>
      some ((0 : Int), z3.1, z3.2.1, ())
def cost_WeightC1_fuel : Nat → ((Int) × (api_Span) × (List (api_Msg)) × (api_Tree) × (Int) × Unit) → Option ((Int) × (api_Tree) × (Int) × Unit)
 | 0, _ => none
 | n + 1, s => cost_WeightC1_step (cost_WeightC1_fuel n) s
def cost_WeightC1 (s : (Int) × (api_Span) × (List (api_Msg)) × (api_Tree) × (Int) × Unit) : Option ((Int) × (api_Tree) × (Int) × Unit) := cost_WeightC1_fuel huge s
def cost_Weight (s : (api_Tree) × Unit) : Option (api_Bill) :=
 match cost_WeightC1 (s.1.2.1, (([] : List UInt8), (([] : List UInt8), ())), ([] : List (api_Msg)), s.1, (0 : Int), ()) with
 | none => none
 | some r0 =>
  bif (!decide ((r0.1 : Int) = (0 : Int))) then
   some ((0 : Int), r0.1, ())
  else
   some (r0.2.2.1, (0 : Int), ())
def tree_leaf (s : (api_Node) × Unit) : Option ((Bool) × Unit) :=
 let t0 : Bool := (decide ((((List.length s.1.2.2.1) : Int) : Int) = (0 : Int)))
 some (t0, ())
def internal_bytealg_CompareString (s : api_Span) : Option ((Int) × Unit) := some ((fun a b => Lib.compareBytes a b) s.1 s.2.1, ())
def strings_Compare (s : api_Span) : Option ((Int) × Unit) :=
 match internal_bytealg_CompareString (s.1, s.2.1, ()) with
 | none => none
 | some r0 =>
  some (r0.1, ())
def table_placeC1 (s : (api_Pair) × (List UInt8) × Unit) : Option ((Int) × Unit) :=
 match strings_Compare (s.1.1, s.2.1, ()) with
 | none => none
 | some r0 =>
  some (r0.1, ())
def slices_BinarySearchFunc_api_Pair_api_Pair_string_b0 (s : (List (api_Pair)) × (List UInt8) × (Int) × (Int) × (Int) × Unit) : Option (((List (api_Pair)) × (List UInt8) × (Int) × (Int) × (Int) × Unit) ⊕ (((List (api_Pair)) × (List UInt8) × (Int) × (Int) × Unit) ⊕ (Unit))) :=
 let t0 : Bool := (decide ((s.2.2.2.1 : Int) < s.2.2.2.2.1))
 bif t0 then
  let t1 : Int := (IntKind.i64.wrap (s.2.2.2.1 + s.2.2.2.2.1))
  let t2 : Int := (Int.fdiv (IntKind.u64.wrap t1) (2 ^ (min (Int.toNat (1 : Int)) IntKind.u64.bits)))
  bif (decide ((0 : Int) ≤ (IntKind.i64.wrap t2)) && decide (((IntKind.i64.wrap t2) : Int) < (List.length s.1 : Int))) then
   let t3 : api_Pair := (List.getD s.1 (Int.toNat (IntKind.i64.wrap t2)) (([] : List UInt8), (([] : List UInt8), ((0 : Int), ()))))
   match table_placeC1 (t3, s.2.1, ()) with
   | none => none
   | some r4 =>
    bif (decide ((r4.1 : Int) < (0 : Int))) then
     let t5 : Int := (IntKind.i64.wrap ((IntKind.i64.wrap t2) + (1 : Int)))
     some (.inl (s.1, s.2.1, s.2.2.1, t5, s.2.2.2.2.1, ()))
    else
     some (.inl (s.1, s.2.1, s.2.2.1, s.2.2.2.1, (IntKind.i64.wrap t2), ()))
  else
   none
 else
  some (.inr (.inl (s.1, s.2.1, s.2.2.1, s.2.2.2.1, ())))
def slices_BinarySearchFunc_api_Pair_api_Pair_string_l0 (s : (List (api_Pair)) × (List UInt8) × (Int) × (Int) × (Int) × Unit) : Option (((List (api_Pair)) × (List UInt8) × (Int) × (Int) × Unit) ⊕ (Unit)) := loopO (slices_BinarySearchFunc_api_Pair_api_Pair_string_b0) s
def slices_BinarySearchFunc_api_Pair_api_Pair_string (s : (List (api_Pair)) × (List UInt8) × Unit) : Option ((Int) × (Bool) × Unit) :=
 match slices_BinarySearchFunc_api_Pair_api_Pair_string_l0 (s.1, s.2.1, ((List.length s.1) : Int), (0 : Int), ((List.length s.1) : Int), ()) with
 | none => none
 | some (.inl z0) =>
  bif (decide ((z0.2.2.2.1 : Int) < z0.2.2.1)) then
   bif (decide ((0 : Int) ≤ z0.2.2.2.1) && decide ((z0.2.2.2.1 : Int) < (List.length z0.1 : Int))) then
    let t1 : api_Pair := (List.getD z0.1 (Int.toNat z0.2.2.2.1) (([] : List UInt8), (([] : List UInt8), ((0 : Int), ()))))
    match table_placeC1 (t1, z0.2.1, ()) with
    | none => none
    | some r2 =>
     some (z0.2.2.2.1, (decide ((r2.1 : Int) = (0 : Int))), ())
   else
    none
  else
   some (z0.2.2.2.1, false, ())
 | some (.inr z0) =>
  none
def table_place (s : (List (api_Pair)) × (List UInt8) × Unit) : Option ((Int) × (Bool) × Unit) :=
 match slices_BinarySearchFunc_api_Pair_api_Pair_string (s.1, s.2.1, ()) with
 | none => none
 | some r0 =>
  some (r0.1, r0.2.1, ())
def table_Find (s : (List (api_Pair)) × (List UInt8) × Unit) : Option ((api_Pair) × (Bool) × Unit) :=
 match table_place (s.1, s.2.1, ()) with
 | none => none
 | some r0 =>
  bif r0.2.1 then
   bif (decide ((0 : Int) ≤ r0.1) && decide ((r0.1 : Int) < (List.length s.1 : Int))) then
    let t1 : api_Pair := (List.getD s.1 (Int.toNat r0.1) (([] : List UInt8), (([] : List UInt8), ((0 : Int), ()))))
    some (t1, true, ())
   else
    none
  else
   some ((([] : List UInt8), (([] : List UInt8), ((0 : Int), ()))), false, ())
def slices_Backward_api_Msg_api_Msg (s : (List (api_Msg)) × Unit) : Option ((List (api_Msg)) × Unit) :=
 some (s.1, ())
def span_Has (s : (api_Span) × (List UInt8) × Unit) : Option ((Bool) × Unit) :=
 bif (!(Op.bytesLess s.2.1 s.1.1)) then
  let t0 : Bool := (decide ((s.1.2.1 : List UInt8) = ([] : List UInt8)))
  bif (!t0) then
   some ((Op.bytesLess s.2.1 s.1.2.1), ())
  else
   some (true, ())
 else
  some (false, ())
def trace_stamp (s : (Int) × (Bool) × (Bool) × (List UInt8) × (List UInt8) × (Int) × (List UInt8) × (Bool) × (Int) × Unit) : Option ((Bool) × (Bool) × (List UInt8) × (List UInt8) × (Int) × (List UInt8) × (Bool) × (Int) × Unit) :=
 bif (!s.2.2.2.2.2.2.2.1) then
  some (s.2.1, s.2.2.1, s.2.2.2.1, s.2.2.2.2.1, s.2.2.2.2.2.1, s.2.2.2.2.2.2.1, true, s.1, ())
 else
  some (s.2.1, s.2.2.1, s.2.2.2.1, s.2.2.2.2.1, s.2.2.2.2.2.1, s.2.2.2.2.2.2.1, s.2.2.2.2.2.2.2.1, s.2.2.2.2.2.2.2.2.1, ())
def trace_stepsC5 (s : (api_Msg) × (Bool) × (Bool) × (List UInt8) × (List UInt8) × (Int) × (List UInt8) × (Bool) × (Int) × Unit) : Option ((Bool) × (Bool) × (Bool) × (List UInt8) × (List UInt8) × (Int) × (List UInt8) × (Bool) × (Int) × Unit) :=
 match span_Has (s.1.2.2.2.1, s.2.2.2.2.2.2.1, ()) with
 | none => none
 | some r0 =>
  bif r0.1 then
   match trace_stamp (s.1.2.2.2.2.2.2.1, s.2.1, s.2.2.1, s.2.2.2.1, s.2.2.2.2.1, s.2.2.2.2.2.1, s.2.2.2.2.2.2.1, s.2.2.2.2.2.2.2.1, s.2.2.2.2.2.2.2.2.1, ()) with
   | none => none
   | some r1 =>
    some (false, r1.1, r1.2.1, r1.2.2.1, r1.2.2.2.1, r1.2.2.2.2.1, r1.2.2.2.2.2.1, r1.2.2.2.2.2.2.1, r1.2.2.2.2.2.2.2.1, ())
  else
   some (false, s.2.1, s.2.2.1, s.2.2.2.1, s.2.2.2.2.1, s.2.2.2.2.2.1, s.2.2.2.2.2.2.1, s.2.2.2.2.2.2.2.1, s.2.2.2.2.2.2.2.2.1, ())
def internal_stringslite_HasPrefix (s : api_Span) : Option ((Bool) × Unit) :=
 let t0 : Bool := (decide ((((List.length s.1) : Int) : Int) ≥ ((List.length s.2.1) : Int)))
 bif t0 then
  bif (decide (((0 : Int) : Int) ≤ ((List.length s.2.1) : Int)) && decide ((((List.length s.2.1) : Int) : Int) ≤ (List.length s.1 : Int))) then
   let t1 : List UInt8 := (List.drop 0 (List.take (Int.toNat ((List.length s.2.1) : Int)) s.1))
   some ((decide ((t1 : List UInt8) = s.2.1)), ())
  else
   none
 else
  some (false, ())
def internal_stringslite_CutPrefix (s : api_Span) : Option ((List UInt8) × (Bool) × Unit) :=
 match internal_stringslite_HasPrefix (s.1, s.2.1, ()) with
 | none => none
 | some r0 =>
  bif (!r0.1) then
   some (s.1, false, ())
  else
   bif (decide ((0 : Int) ≤ ((List.length s.2.1) : Int)) && decide ((((List.length s.2.1) : Int) : Int) ≤ (List.length s.1 : Int)) && decide (((List.length s.1 : Int) : Int) ≤ (List.length s.1 : Int))) then
    let t1 : List UInt8 := (List.drop (Int.toNat ((List.length s.2.1) : Int)) (List.take (Int.toNat (List.length s.1 : Int)) s.1))
    some (t1, true, ())
   else
    none
def strings_CutPrefix (s : api_Span) : Option ((List UInt8) × (Bool) × Unit) :=
 match internal_stringslite_CutPrefix (s.1, s.2.1, ()) with
 | none => none
 | some r0 =>
  some (r0.1, r0.2.1, ())
def span_Moved (s : (List UInt8) × (List UInt8) × (List UInt8) × Unit) : Option ((List UInt8) × (Bool) × Unit) :=
 match strings_CutPrefix (s.1, s.2.1, ()) with
 | none => none
 | some r0 =>
  bif (!r0.2.1) then
   some (([] : List UInt8), false, ())
  else
   bif (decide (List.length s.2.2.1 + List.length r0.1 ≤ roomMax)) then
    some ((s.2.2.1 ++ r0.1), true, ())
   else
    none
def trace_back (s : (api_Msg) × (Bool) × (Bool) × (List UInt8) × (List UInt8) × (Int) × (List UInt8) × (Bool) × (Int) × Unit) : Option ((Bool) × (Bool) × (Bool) × (List UInt8) × (List UInt8) × (Int) × (List UInt8) × (Bool) × (Int) × Unit) :=
 match span_Moved (s.2.2.2.2.2.2.1, s.1.2.2.2.2.2.1, s.1.2.2.2.2.1, ()) with
 | none => none
 | some r0 =>
  bif r0.2.1 then
   some (false, s.2.1, s.2.2.1, s.2.2.2.1, s.2.2.2.2.1, s.2.2.2.2.2.1, r0.1, s.2.2.2.2.2.2.2.1, s.2.2.2.2.2.2.2.2.1, ())
  else
   some (false, s.2.1, s.2.2.1, s.2.2.2.1, s.2.2.2.2.1, s.2.2.2.2.2.1, s.2.2.2.2.2.2.1, s.2.2.2.2.2.2.2.1, s.2.2.2.2.2.2.2.2.1, ())
def strings_HasPrefix (s : api_Span) : Option ((Bool) × Unit) :=
 match internal_stringslite_HasPrefix (s.1, s.2.1, ()) with
 | none => none
 | some r0 =>
  some (r0.1, ())
def trace_stepsC4 (s : (api_Msg) × (Bool) × (Bool) × (List UInt8) × (List UInt8) × (Int) × (List UInt8) × (Bool) × (Int) × Unit) : Option ((Bool) × (Bool) × (Bool) × (List UInt8) × (List UInt8) × (Int) × (List UInt8) × (Bool) × (Int) × Unit) :=
 match strings_HasPrefix (s.2.2.2.2.2.2.1, s.1.2.2.2.2.1, ()) with
 | none => none
 | some r0 =>
  bif (!r0.1) then
   match trace_back (s.1, s.2.1, s.2.2.1, s.2.2.2.1, s.2.2.2.2.1, s.2.2.2.2.2.1, s.2.2.2.2.2.2.1, s.2.2.2.2.2.2.2.1, s.2.2.2.2.2.2.2.2.1, ()) with
   | none => none
   | some r1 =>
    some (r1.1, r1.2.1, r1.2.2.1, r1.2.2.2.1, r1.2.2.2.2.1, r1.2.2.2.2.2.1, r1.2.2.2.2.2.2.1, r1.2.2.2.2.2.2.2.1, r1.2.2.2.2.2.2.2.2.1, ())
  else
   some (true, s.2.1, s.2.2.1, s.2.2.2.1, s.2.2.2.2.1, s.2.2.2.2.2.1, s.2.2.2.2.2.2.1, s.2.2.2.2.2.2.2.1, s.2.2.2.2.2.2.2.2.1, ())
def trace_stepsC3 (s : (api_Msg) × (Bool) × (Bool) × (List UInt8) × (List UInt8) × (Int) × (List UInt8) × (Bool) × (Int) × Unit) : Option ((Bool) × (Bool) × (Bool) × (List UInt8) × (List UInt8) × (Int) × (List UInt8) × (Bool) × (Int) × Unit) :=
 match span_Has (s.1.2.2.2.1, s.2.2.2.2.2.2.1, ()) with
 | none => none
 | some r0 =>
  some (r0.1, s.2.1, s.2.2.1, s.2.2.2.1, s.2.2.2.2.1, s.2.2.2.2.2.1, s.2.2.2.2.2.2.1, s.2.2.2.2.2.2.2.1, s.2.2.2.2.2.2.2.2.1, ())
def trace_stepsC2 (s : (api_Msg) × (Bool) × (Bool) × (List UInt8) × (List UInt8) × (Int) × (List UInt8) × (Bool) × (Int) × Unit) : Option ((Bool) × (Bool) × (Bool) × (List UInt8) × (List UInt8) × (Int) × (List UInt8) × (Bool) × (Int) × Unit) :=
 let t0 : Bool := (decide ((s.1.2.1 : List UInt8) = s.2.2.2.2.2.2.1))
 some (t0, s.2.1, s.2.2.1, s.2.2.2.1, s.2.2.2.2.1, s.2.2.2.2.2.1, s.2.2.2.2.2.2.1, s.2.2.2.2.2.2.2.1, s.2.2.2.2.2.2.2.2.1, ())
def trace_stepsC1 (s : (api_Msg) × (Bool) × (Bool) × (List UInt8) × (List UInt8) × (Int) × (List UInt8) × (Bool) × (Int) × Unit) : Option ((Bool) × (Bool) × (Bool) × (List UInt8) × (List UInt8) × (Int) × (List UInt8) × (Bool) × (Int) × Unit) :=
 let t0 : Bool := (!decide ((s.1.2.1 : List UInt8) = s.2.2.2.2.2.2.1))
 bif t0 then
  some (false, s.2.1, s.2.2.1, s.2.2.2.1, s.2.2.2.2.1, s.2.2.2.2.2.1, s.2.2.2.2.2.2.1, s.2.2.2.2.2.2.2.1, s.2.2.2.2.2.2.2.2.1, ())
 else
  match trace_stamp (s.1.2.2.2.2.2.2.1, s.2.1, s.2.2.1, s.2.2.2.1, s.2.2.2.2.1, s.2.2.2.2.2.1, s.2.2.2.2.2.2.1, s.2.2.2.2.2.2.2.1, s.2.2.2.2.2.2.2.2.1, ()) with
  | none => none
  | some r1 =>
   some (true, r1.1, true, r1.2.2.1, s.1.2.2.1, r1.2.2.2.2.2.2.2.1, r1.2.2.2.2.2.1, r1.2.2.2.2.2.2.1, r1.2.2.2.2.2.2.2.1, ())
def trace_Key_round0_j0 (s : (Bool) × (Int) × (Bool) × (Bool) × (List UInt8) × (List UInt8) × (Int) × (List UInt8) × (Bool) × (Int) × (Bool) × (Bool) × (List UInt8) × (List UInt8) × (Int) × (List UInt8) × (Bool) × (Int) × Unit) : Option ((Bool) × (Int) × (Bool) × (Bool) × (List UInt8) × (List UInt8) × (Int) × (List UInt8) × (Bool) × (Int) × (Bool) × (Bool) × (List UInt8) × (List UInt8) × (Int) × (List UInt8) × (Bool) × (Int) × Unit) :=
 bif s.1 then
  some (true, (0 : Int), s.2.2.1, s.2.2.2.1, s.2.2.2.2.1, s.2.2.2.2.2.1, s.2.2.2.2.2.2.1, s.2.2.2.2.2.2.2.1, s.2.2.2.2.2.2.2.2.1, s.2.2.2.2.2.2.2.2.2.1, s.2.2.2.2.2.2.2.2.2.2.1, s.2.2.2.2.2.2.2.2.2.2.2.1, s.2.2.2.2.2.2.2.2.2.2.2.2.1, s.2.2.2.2.2.2.2.2.2.2.2.2.2.1, s.2.2.2.2.2.2.2.2.2.2.2.2.2.2.1, s.2.2.2.2.2.2.2.2.2.2.2.2.2.2.2.1, s.2.2.2.2.2.2.2.2.2.2.2.2.2.2.2.2.1, s.2.2.2.2.2.2.2.2.2.2.2.2.2.2.2.2.2.1, ())
 else
  bif s.2.2.2.1 then
   some (false, (1 : Int), s.2.2.1, s.2.2.2.1, s.2.2.2.2.1, s.2.2.2.2.2.1, s.2.2.2.2.2.2.1, s.2.2.2.2.2.2.2.1, s.2.2.2.2.2.2.2.2.1, s.2.2.2.2.2.2.2.2.2.1, true, true, s.2.2.2.2.1, s.2.2.2.2.2.1, s.2.2.2.2.2.2.1, ([] : List UInt8), false, (0 : Int), ())
  else
   some (false, (1 : Int), s.2.2.1, s.2.2.2.1, s.2.2.2.2.1, s.2.2.2.2.2.1, s.2.2.2.2.2.2.1, s.2.2.2.2.2.2.2.1, s.2.2.2.2.2.2.2.2.1, s.2.2.2.2.2.2.2.2.2.1, true, false, ([] : List UInt8), ([] : List UInt8), (0 : Int), ([] : List UInt8), false, (0 : Int), ())

def trace_Key_round0 (s : (Int) × (api_Msg) × (Int) × (Bool) × (Bool) × (List UInt8) × (List UInt8) × (Int) × (List UInt8) × (Bool) × (Int) × (Bool) × (Bool) × (List UInt8) × (List UInt8) × (Int) × (List UInt8) × (Bool) × (Int) × Unit) : Option ((Bool) × (Int) × (Bool) × (Bool) × (List UInt8) × (List UInt8) × (Int) × (List UInt8) × (Bool) × (Int) × (Bool) × (Bool) × (List UInt8) × (List UInt8) × (Int) × (List UInt8) × (Bool) × (Int) × Unit) :=
 bif (decide ((s.2.2.1 : Int) = 0)) then
  bif (decide ((s.2.2.1 : Int) = 0)) then
   bif (decide ((0 : Int) ≤ s.2.1.1) && decide ((s.2.1.1 : Int) < (7 : Int))) then
    bif (Nat.beq (Int.toNat s.2.1.1) 6) then
     match trace_stepsC5 (s.2.1, s.2.2.2.1, s.2.2.2.2.1, s.2.2.2.2.2.1, s.2.2.2.2.2.2.1, s.2.2.2.2.2.2.2.1, s.2.2.2.2.2.2.2.2.1, s.2.2.2.2.2.2.2.2.2.1, s.2.2.2.2.2.2.2.2.2.2.1, ()) with
     | none => none
     | some r0 =>
      trace_Key_round0_j0 ((!r0.1), (-1 : Int), r0.2.1, r0.2.2.1, r0.2.2.2.1, r0.2.2.2.2.1, r0.2.2.2.2.2.1, r0.2.2.2.2.2.2.1, r0.2.2.2.2.2.2.2.1, r0.2.2.2.2.2.2.2.2.1, s.2.2.2.2.2.2.2.2.2.2.2.1, s.2.2.2.2.2.2.2.2.2.2.2.2.1, s.2.2.2.2.2.2.2.2.2.2.2.2.2.1, s.2.2.2.2.2.2.2.2.2.2.2.2.2.2.1, s.2.2.2.2.2.2.2.2.2.2.2.2.2.2.2.1, s.2.2.2.2.2.2.2.2.2.2.2.2.2.2.2.2.1, s.2.2.2.2.2.2.2.2.2.2.2.2.2.2.2.2.2.1, s.2.2.2.2.2.2.2.2.2.2.2.2.2.2.2.2.2.2.1, ())
    else
     bif (Nat.beq (Int.toNat s.2.1.1) 5) then
      match trace_back (s.2.1, s.2.2.2.1, s.2.2.2.2.1, s.2.2.2.2.2.1, s.2.2.2.2.2.2.1, s.2.2.2.2.2.2.2.1, s.2.2.2.2.2.2.2.2.1, s.2.2.2.2.2.2.2.2.2.1, s.2.2.2.2.2.2.2.2.2.2.1, ()) with
      | none => none
      | some r0 =>
       trace_Key_round0_j0 ((!r0.1), (-1 : Int), r0.2.1, r0.2.2.1, r0.2.2.2.1, r0.2.2.2.2.1, r0.2.2.2.2.2.1, r0.2.2.2.2.2.2.1, r0.2.2.2.2.2.2.2.1, r0.2.2.2.2.2.2.2.2.1, s.2.2.2.2.2.2.2.2.2.2.2.1, s.2.2.2.2.2.2.2.2.2.2.2.2.1, s.2.2.2.2.2.2.2.2.2.2.2.2.2.1, s.2.2.2.2.2.2.2.2.2.2.2.2.2.2.1, s.2.2.2.2.2.2.2.2.2.2.2.2.2.2.2.1, s.2.2.2.2.2.2.2.2.2.2.2.2.2.2.2.2.1, s.2.2.2.2.2.2.2.2.2.2.2.2.2.2.2.2.2.1, s.2.2.2.2.2.2.2.2.2.2.2.2.2.2.2.2.2.2.1, ())
     else
      bif (Nat.beq (Int.toNat s.2.1.1) 4) then
       match trace_stepsC4 (s.2.1, s.2.2.2.1, s.2.2.2.2.1, s.2.2.2.2.2.1, s.2.2.2.2.2.2.1, s.2.2.2.2.2.2.2.1, s.2.2.2.2.2.2.2.2.1, s.2.2.2.2.2.2.2.2.2.1, s.2.2.2.2.2.2.2.2.2.2.1, ()) with
       | none => none
       | some r0 =>
        trace_Key_round0_j0 ((!r0.1), (-1 : Int), r0.2.1, r0.2.2.1, r0.2.2.2.1, r0.2.2.2.2.1, r0.2.2.2.2.2.1, r0.2.2.2.2.2.2.1, r0.2.2.2.2.2.2.2.1, r0.2.2.2.2.2.2.2.2.1, s.2.2.2.2.2.2.2.2.2.2.2.1, s.2.2.2.2.2.2.2.2.2.2.2.2.1, s.2.2.2.2.2.2.2.2.2.2.2.2.2.1, s.2.2.2.2.2.2.2.2.2.2.2.2.2.2.1, s.2.2.2.2.2.2.2.2.2.2.2.2.2.2.2.1, s.2.2.2.2.2.2.2.2.2.2.2.2.2.2.2.2.1, s.2.2.2.2.2.2.2.2.2.2.2.2.2.2.2.2.2.1, s.2.2.2.2.2.2.2.2.2.2.2.2.2.2.2.2.2.2.1, ())
      else
       bif (Nat.beq (Int.toNat s.2.1.1) 3) then
        match trace_stepsC3 (s.2.1, s.2.2.2.1, s.2.2.2.2.1, s.2.2.2.2.2.1, s.2.2.2.2.2.2.1, s.2.2.2.2.2.2.2.1, s.2.2.2.2.2.2.2.2.1, s.2.2.2.2.2.2.2.2.2.1, s.2.2.2.2.2.2.2.2.2.2.1, ()) with
        | none => none
        | some r0 =>
         trace_Key_round0_j0 ((!r0.1), (-1 : Int), r0.2.1, r0.2.2.1, r0.2.2.2.1, r0.2.2.2.2.1, r0.2.2.2.2.2.1, r0.2.2.2.2.2.2.1, r0.2.2.2.2.2.2.2.1, r0.2.2.2.2.2.2.2.2.1, s.2.2.2.2.2.2.2.2.2.2.2.1, s.2.2.2.2.2.2.2.2.2.2.2.2.1, s.2.2.2.2.2.2.2.2.2.2.2.2.2.1, s.2.2.2.2.2.2.2.2.2.2.2.2.2.2.1, s.2.2.2.2.2.2.2.2.2.2.2.2.2.2.2.1, s.2.2.2.2.2.2.2.2.2.2.2.2.2.2.2.2.1, s.2.2.2.2.2.2.2.2.2.2.2.2.2.2.2.2.2.1, s.2.2.2.2.2.2.2.2.2.2.2.2.2.2.2.2.2.2.1, ())
       else
        bif (Nat.beq (Int.toNat s.2.1.1) 2) then
         match trace_stepsC2 (s.2.1, s.2.2.2.1, s.2.2.2.2.1, s.2.2.2.2.2.1, s.2.2.2.2.2.2.1, s.2.2.2.2.2.2.2.1, s.2.2.2.2.2.2.2.2.1, s.2.2.2.2.2.2.2.2.2.1, s.2.2.2.2.2.2.2.2.2.2.1, ()) with
         | none => none
         | some r0 =>
          trace_Key_round0_j0 ((!r0.1), (-1 : Int), r0.2.1, r0.2.2.1, r0.2.2.2.1, r0.2.2.2.2.1, r0.2.2.2.2.2.1, r0.2.2.2.2.2.2.1, r0.2.2.2.2.2.2.2.1, r0.2.2.2.2.2.2.2.2.1, s.2.2.2.2.2.2.2.2.2.2.2.1, s.2.2.2.2.2.2.2.2.2.2.2.2.1, s.2.2.2.2.2.2.2.2.2.2.2.2.2.1, s.2.2.2.2.2.2.2.2.2.2.2.2.2.2.1, s.2.2.2.2.2.2.2.2.2.2.2.2.2.2.2.1, s.2.2.2.2.2.2.2.2.2.2.2.2.2.2.2.2.1, s.2.2.2.2.2.2.2.2.2.2.2.2.2.2.2.2.2.1, s.2.2.2.2.2.2.2.2.2.2.2.2.2.2.2.2.2.2.1, ())
        else
         bif (Nat.beq (Int.toNat s.2.1.1) 1) then
          match trace_stepsC1 (s.2.1, s.2.2.2.1, s.2.2.2.2.1, s.2.2.2.2.2.1, s.2.2.2.2.2.2.1, s.2.2.2.2.2.2.2.1, s.2.2.2.2.2.2.2.2.1, s.2.2.2.2.2.2.2.2.2.1, s.2.2.2.2.2.2.2.2.2.2.1, ()) with
          | none => none
          | some r0 =>
           trace_Key_round0_j0 ((!r0.1), (-1 : Int), r0.2.1, r0.2.2.1, r0.2.2.2.1, r0.2.2.2.2.1, r0.2.2.2.2.2.1, r0.2.2.2.2.2.2.1, r0.2.2.2.2.2.2.2.1, r0.2.2.2.2.2.2.2.2.1, s.2.2.2.2.2.2.2.2.2.2.2.1, s.2.2.2.2.2.2.2.2.2.2.2.2.1, s.2.2.2.2.2.2.2.2.2.2.2.2.2.1, s.2.2.2.2.2.2.2.2.2.2.2.2.2.2.1, s.2.2.2.2.2.2.2.2.2.2.2.2.2.2.2.1, s.2.2.2.2.2.2.2.2.2.2.2.2.2.2.2.2.1, s.2.2.2.2.2.2.2.2.2.2.2.2.2.2.2.2.2.1, s.2.2.2.2.2.2.2.2.2.2.2.2.2.2.2.2.2.2.1, ())
         else
          bif (Nat.beq (Int.toNat s.2.1.1) 0) then
           none
          else
           none
   else
    none
  else
   none
 else
  none
def slices_Backward_api_Msg_api_Msg_C1_b0 (s : (Int) × (Int) × (List (api_Msg)) × (Bool) × (Bool) × (List UInt8) × (List UInt8) × (Int) × (List UInt8) × (Bool) × (Int) × (Bool) × (Bool) × (List UInt8) × (List UInt8) × (Int) × (List UInt8) × (Bool) × (Int) × Unit) : Option (((Int) × (Int) × (List (api_Msg)) × (Bool) × (Bool) × (List UInt8) × (List UInt8) × (Int) × (List UInt8) × (Bool) × (Int) × (Bool) × (Bool) × (List UInt8) × (List UInt8) × (Int) × (List UInt8) × (Bool) × (Int) × Unit) ⊕ (((Int) × (List (api_Msg)) × (Bool) × (Bool) × (List UInt8) × (List UInt8) × (Int) × (List UInt8) × (Bool) × (Int) × (Bool) × (Bool) × (List UInt8) × (List UInt8) × (Int) × (List UInt8) × (Bool) × (Int) × Unit) ⊕ ((Int) × (List (api_Msg)) × (Bool) × (Bool) × (List UInt8) × (List UInt8) × (Int) × (List UInt8) × (Bool) × (Int) × (Bool) × (Bool) × (List UInt8) × (List UInt8) × (Int) × (List UInt8) × (Bool) × (Int) × Unit))) :=
 bif (decide ((s.1 : Int) ≥ (0 : Int))) then
  bif (decide ((0 : Int) ≤ s.1) && decide ((s.1 : Int) < (List.length s.2.2.1 : Int))) then
   let t0 : api_Msg := (List.getD s.2.2.1 (Int.toNat s.1) ((0 : Int), (([] : List UInt8), (([] : List UInt8), ((([] : List UInt8), (([] : List UInt8), ())), (([] : List UInt8), (([] : List UInt8), ((0 : Int), ()))))))))
   match trace_Key_round0 (s.1, t0, s.2.1, s.2.2.2.1, s.2.2.2.2.1, s.2.2.2.2.2.1, s.2.2.2.2.2.2.1, s.2.2.2.2.2.2.2.1, s.2.2.2.2.2.2.2.2.1, s.2.2.2.2.2.2.2.2.2.1, s.2.2.2.2.2.2.2.2.2.2.1, s.2.2.2.2.2.2.2.2.2.2.2.1, s.2.2.2.2.2.2.2.2.2.2.2.2.1, s.2.2.2.2.2.2.2.2.2.2.2.2.2.1, s.2.2.2.2.2.2.2.2.2.2.2.2.2.2.1, s.2.2.2.2.2.2.2.2.2.2.2.2.2.2.2.1, s.2.2.2.2.2.2.2.2.2.2.2.2.2.2.2.2.1, s.2.2.2.2.2.2.2.2.2.2.2.2.2.2.2.2.2.1, s.2.2.2.2.2.2.2.2.2.2.2.2.2.2.2.2.2.2.1, ()) with
   | none => none
   | some r1 =>
    bif (!r1.1) then
     some (.inr (.inl (r1.2.1, s.2.2.1, r1.2.2.1, r1.2.2.2.1, r1.2.2.2.2.1, r1.2.2.2.2.2.1, r1.2.2.2.2.2.2.1, r1.2.2.2.2.2.2.2.1, r1.2.2.2.2.2.2.2.2.1, r1.2.2.2.2.2.2.2.2.2.1, r1.2.2.2.2.2.2.2.2.2.2.1, r1.2.2.2.2.2.2.2.2.2.2.2.1, r1.2.2.2.2.2.2.2.2.2.2.2.2.1, r1.2.2.2.2.2.2.2.2.2.2.2.2.2.1, r1.2.2.2.2.2.2.2.2.2.2.2.2.2.2.1, r1.2.2.2.2.2.2.2.2.2.2.2.2.2.2.2.1, r1.2.2.2.2.2.2.2.2.2.2.2.2.2.2.2.2.1, r1.2.2.2.2.2.2.2.2.2.2.2.2.2.2.2.2.2.1, ())))
    else
     some (.inl ((IntKind.i64.wrap (s.1 - (1 : Int))), r1.2.1, s.2.2.1, r1.2.2.1, r1.2.2.2.1, r1.2.2.2.2.1, r1.2.2.2.2.2.1, r1.2.2.2.2.2.2.1, r1.2.2.2.2.2.2.2.1, r1.2.2.2.2.2.2.2.2.1, r1.2.2.2.2.2.2.2.2.2.1, r1.2.2.2.2.2.2.2.2.2.2.1, r1.2.2.2.2.2.2.2.2.2.2.2.1, r1.2.2.2.2.2.2.2.2.2.2.2.2.1, r1.2.2.2.2.2.2.2.2.2.2.2.2.2.1, r1.2.2.2.2.2.2.2.2.2.2.2.2.2.2.1, r1.2.2.2.2.2.2.2.2.2.2.2.2.2.2.2.1, r1.2.2.2.2.2.2.2.2.2.2.2.2.2.2.2.2.1, r1.2.2.2.2.2.2.2.2.2.2.2.2.2.2.2.2.2.1, ()))
  else
   none
 else
  some (.inr (.inr (s.2.1, s.2.2.1, s.2.2.2.1, s.2.2.2.2.1, s.2.2.2.2.2.1, s.2.2.2.2.2.2.1, s.2.2.2.2.2.2.2.1, s.2.2.2.2.2.2.2.2.1, s.2.2.2.2.2.2.2.2.2.1, s.2.2.2.2.2.2.2.2.2.2.1, s.2.2.2.2.2.2.2.2.2.2.2.1, s.2.2.2.2.2.2.2.2.2.2.2.2.1, s.2.2.2.2.2.2.2.2.2.2.2.2.2.1, s.2.2.2.2.2.2.2.2.2.2.2.2.2.2.1, s.2.2.2.2.2.2.2.2.2.2.2.2.2.2.2.1, s.2.2.2.2.2.2.2.2.2.2.2.2.2.2.2.2.1, s.2.2.2.2.2.2.2.2.2.2.2.2.2.2.2.2.2.1, s.2.2.2.2.2.2.2.2.2.2.2.2.2.2.2.2.2.2.1, ())))
def slices_Backward_api_Msg_api_Msg_C1_l0 (s : (Int) × (Int) × (List (api_Msg)) × (Bool) × (Bool) × (List UInt8) × (List UInt8) × (Int) × (List UInt8) × (Bool) × (Int) × (Bool) × (Bool) × (List UInt8) × (List UInt8) × (Int) × (List UInt8) × (Bool) × (Int) × Unit) : Option (((Int) × (List (api_Msg)) × (Bool) × (Bool) × (List UInt8) × (List UInt8) × (Int) × (List UInt8) × (Bool) × (Int) × (Bool) × (Bool) × (List UInt8) × (List UInt8) × (Int) × (List UInt8) × (Bool) × (Int) × Unit) ⊕ ((Int) × (List (api_Msg)) × (Bool) × (Bool) × (List UInt8) × (List UInt8) × (Int) × (List UInt8) × (Bool) × (Int) × (Bool) × (Bool) × (List UInt8) × (List UInt8) × (Int) × (List UInt8) × (Bool) × (Int) × Unit)) := loopO (slices_Backward_api_Msg_api_Msg_C1_b0) s
def slices_Backward_api_Msg_api_Msg_C1 (s : (Int) × (List (api_Msg)) × (Bool) × (Bool) × (List UInt8) × (List UInt8) × (Int) × (List UInt8) × (Bool) × (Int) × (Bool) × (Bool) × (List UInt8) × (List UInt8) × (Int) × (List UInt8) × (Bool) × (Int) × Unit) : Option ((Int) × (List (api_Msg)) × (Bool) × (Bool) × (List UInt8) × (List UInt8) × (Int) × (List UInt8) × (Bool) × (Int) × (Bool) × (Bool) × (List UInt8) × (List UInt8) × (Int) × (List UInt8) × (Bool) × (Int) × Unit) :=
 let t0 : Int := (IntKind.i64.wrap (((List.length s.2.1) : Int) - (1 : Int)))
 match slices_Backward_api_Msg_api_Msg_C1_l0 (t0, s.1, s.2.1, s.2.2.1, s.2.2.2.1, s.2.2.2.2.1, s.2.2.2.2.2.1, s.2.2.2.2.2.2.1, s.2.2.2.2.2.2.2.1, s.2.2.2.2.2.2.2.2.1, s.2.2.2.2.2.2.2.2.2.1, s.2.2.2.2.2.2.2.2.2.2.1, s.2.2.2.2.2.2.2.2.2.2.2.1, s.2.2.2.2.2.2.2.2.2.2.2.2.1, s.2.2.2.2.2.2.2.2.2.2.2.2.2.1, s.2.2.2.2.2.2.2.2.2.2.2.2.2.2.1, s.2.2.2.2.2.2.2.2.2.2.2.2.2.2.2.1, s.2.2.2.2.2.2.2.2.2.2.2.2.2.2.2.2.1, s.2.2.2.2.2.2.2.2.2.2.2.2.2.2.2.2.2.1, ()) with
 | none => none
 | some (.inl z1) =>
  some (z1.1, z1.2.1, z1.2.2.1, z1.2.2.2.1, z1.2.2.2.2.1, z1.2.2.2.2.2.1, z1.2.2.2.2.2.2.1, z1.2.2.2.2.2.2.2.1, z1.2.2.2.2.2.2.2.2.1, z1.2.2.2.2.2.2.2.2.2.1, z1.2.2.2.2.2.2.2.2.2.2.1, z1.2.2.2.2.2.2.2.2.2.2.2.1, z1.2.2.2.2.2.2.2.2.2.2.2.2.1, z1.2.2.2.2.2.2.2.2.2.2.2.2.2.1, z1.2.2.2.2.2.2.2.2.2.2.2.2.2.2.1, z1.2.2.2.2.2.2.2.2.2.2.2.2.2.2.2.1, z1.2.2.2.2.2.2.2.2.2.2.2.2.2.2.2.2.1, z1.2.2.2.2.2.2.2.2.2.2.2.2.2.2.2.2.2.1, ())
 | some (.inr z1) =>
  some (z1.1, z1.2.1, z1.2.2.1, z1.2.2.2.1, z1.2.2.2.2.1, z1.2.2.2.2.2.1, z1.2.2.2.2.2.2.1, z1.2.2.2.2.2.2.2.1, z1.2.2.2.2.2.2.2.2.1, z1.2.2.2.2.2.2.2.2.2.1, z1.2.2.2.2.2.2.2.2.2.2.1, z1.2.2.2.2.2.2.2.2.2.2.2.1, z1.2.2.2.2.2.2.2.2.2.2.2.2.1, z1.2.2.2.2.2.2.2.2.2.2.2.2.2.1, z1.2.2.2.2.2.2.2.2.2.2.2.2.2.2.1, z1.2.2.2.2.2.2.2.2.2.2.2.2.2.2.2.1, z1.2.2.2.2.2.2.2.2.2.2.2.2.2.2.2.2.1, z1.2.2.2.2.2.2.2.2.2.2.2.2.2.2.2.2.2.1, ())
def trace_Key (s : (List UInt8) × (List (api_Msg)) × Unit) : Option ((api_Found) × Unit) :=
 match slices_Backward_api_Msg_api_Msg (s.2.1, ()) with
 | none => none
 | some r0 =>
  match slices_Backward_api_Msg_api_Msg_C1 ((0 : Int), r0.1, false, false, s.1, ([] : List UInt8), (0 : Int), s.1, false, (0 : Int), false, false, ([] : List UInt8), ([] : List UInt8), (0 : Int), ([] : List UInt8), false, (0 : Int), ()) with
  | none => none
  | some r1 =>
   bif (decide ((r1.1 : Int) = 0)) then
    some ((r1.2.2.1, (r1.2.2.2.1, ((r1.2.2.2.2.1, (r1.2.2.2.2.2.1, (r1.2.2.2.2.2.2.1, ()))), (r1.2.2.2.2.2.2.2.1, (r1.2.2.2.2.2.2.2.2.1, (r1.2.2.2.2.2.2.2.2.2.1, ())))))), ())
   else
    bif (decide ((r1.1 : Int) = 1)) then
     some ((r1.2.2.2.2.2.2.2.2.2.2.1, (r1.2.2.2.2.2.2.2.2.2.2.2.1, ((r1.2.2.2.2.2.2.2.2.2.2.2.2.1, (r1.2.2.2.2.2.2.2.2.2.2.2.2.2.1, (r1.2.2.2.2.2.2.2.2.2.2.2.2.2.2.1, ()))), (r1.2.2.2.2.2.2.2.2.2.2.2.2.2.2.2.1, (r1.2.2.2.2.2.2.2.2.2.2.2.2.2.2.2.2.1, (r1.2.2.2.2.2.2.2.2.2.2.2.2.2.2.2.2.2.1, ())))))), ())
    else
     none
def cmp_isNaN_string (s : (List UInt8) × Unit) : Option ((Bool) × Unit) :=
 some ((!decide ((s.1 : List UInt8) = s.1)), ())
def cmp_Less_string (s : api_Span) : Option ((Bool) × Unit) :=
 match cmp_isNaN_string (s.1, ()) with
 | none => none
 | some r0 =>
  bif r0.1 then
   match cmp_isNaN_string (s.2.1, ()) with
   | none => none
   | some r1 =>
    bif (!(!r1.1)) then
     some ((Op.bytesLess s.1 s.2.1), ())
    else
     some (true, ())
  else
   some ((Op.bytesLess s.1 s.2.1), ())
def slices_isNaN_string (s : (List UInt8) × Unit) : Option ((Bool) × Unit) :=
 some ((!decide ((s.1 : List UInt8) = s.1)), ())
def slices_BinarySearch_string_string_b0 (s : (List (List UInt8)) × (List UInt8) × (Int) × (Int) × (Int) × Unit) : Option (((List (List UInt8)) × (List UInt8) × (Int) × (Int) × (Int) × Unit) ⊕ (((List (List UInt8)) × (List UInt8) × (Int) × (Int) × Unit) ⊕ (Unit))) :=
 let t0 : Bool := (decide ((s.2.2.2.1 : Int) < s.2.2.2.2.1))
 bif t0 then
  let t1 : Int := (IntKind.i64.wrap (s.2.2.2.1 + s.2.2.2.2.1))
  let t2 : Int := (Int.fdiv (IntKind.u64.wrap t1) (2 ^ (min (Int.toNat (1 : Int)) IntKind.u64.bits)))
  bif (decide ((0 : Int) ≤ (IntKind.i64.wrap t2)) && decide (((IntKind.i64.wrap t2) : Int) < (List.length s.1 : Int))) then
   let t3 : List UInt8 := (List.getD s.1 (Int.toNat (IntKind.i64.wrap t2)) ([] : List UInt8))
   match cmp_Less_string (t3, s.2.1, ()) with
   | none => none
   | some r4 =>
    bif r4.1 then
     let t5 : Int := (IntKind.i64.wrap ((IntKind.i64.wrap t2) + (1 : Int)))
     some (.inl (s.1, s.2.1, s.2.2.1, t5, s.2.2.2.2.1, ()))
    else
     some (.inl (s.1, s.2.1, s.2.2.1, s.2.2.2.1, (IntKind.i64.wrap t2), ()))
  else
   none
 else
  some (.inr (.inl (s.1, s.2.1, s.2.2.1, s.2.2.2.1, ())))
def slices_BinarySearch_string_string_l0 (s : (List (List UInt8)) × (List UInt8) × (Int) × (Int) × (Int) × Unit) : Option (((List (List UInt8)) × (List UInt8) × (Int) × (Int) × Unit) ⊕ (Unit)) := loopO (slices_BinarySearch_string_string_b0) s
def slices_BinarySearch_string_string (s : (List (List UInt8)) × (List UInt8) × Unit) : Option ((Int) × (Bool) × Unit) :=
 match slices_BinarySearch_string_string_l0 (s.1, s.2.1, ((List.length s.1) : Int), (0 : Int), ((List.length s.1) : Int), ()) with
 | none => none
 | some (.inl z0) =>
  bif (decide ((z0.2.2.2.1 : Int) < z0.2.2.1)) then
   bif (decide ((0 : Int) ≤ z0.2.2.2.1) && decide ((z0.2.2.2.1 : Int) < (List.length z0.1 : Int))) then
    let t1 : List UInt8 := (List.getD z0.1 (Int.toNat z0.2.2.2.1) ([] : List UInt8))
    bif (!(decide ((t1 : List UInt8) = z0.2.1))) then
     bif (decide ((0 : Int) ≤ z0.2.2.2.1) && decide ((z0.2.2.2.1 : Int) < (List.length z0.1 : Int))) then
      let t2 : List UInt8 := (List.getD z0.1 (Int.toNat z0.2.2.2.1) ([] : List UInt8))
      match slices_isNaN_string (t2, ()) with
      | none => none
      | some r3 =>
       bif r3.1 then
        match slices_isNaN_string (z0.2.1, ()) with
        | none => none
        | some r4 =>
         some (z0.2.2.2.1, r4.1, ())
       else
        some (z0.2.2.2.1, false, ())
     else
      none
    else
     some (z0.2.2.2.1, true, ())
   else
    none
  else
   some (z0.2.2.2.1, false, ())
 | some (.inr z0) =>
  none
def route_Kid (s : (List UInt8) × (List (List UInt8)) × Unit) : Option ((Int) × Unit) :=
 match slices_BinarySearch_string_string (s.2.1, s.1, ()) with
 | none => none
 | some r0 =>
  bif r0.2.1 then
   some ((IntKind.i64.wrap (r0.1 + (1 : Int))), ())
  else
   some (r0.1, ())
def trace_Value (s : (api_Found) × (api_Pair) × (Bool) × Unit) : Option ((api_Pair) × (Bool) × Unit) :=
 bif s.1.1 then
  some (s.1.2.2.1, s.1.2.1, ())
 else
  bif (!s.2.2.1) then
   some ((([] : List UInt8), (([] : List UInt8), ((0 : Int), ()))), false, ())
  else
   bif s.1.2.2.2.2.1 then
    some ((s.1.2.2.1.1, (s.2.1.2.1, (s.1.2.2.2.2.2.1, ()))), true, ())
   else
    some ((s.1.2.2.1.1, (s.2.1.2.1, (s.2.1.2.2.1, ()))), true, ())
def tree_Get_b0 (s : (List UInt8) × (Int) × (List (api_Found)) × (api_Tree) × (List UInt8) × (List UInt8) × (Int) × (Bool) × (Int) × Unit) : Option (((List UInt8) × (Int) × (List (api_Found)) × (api_Tree) × (List UInt8) × (List UInt8) × (Int) × (Bool) × (Int) × Unit) ⊕ (((Int) × (List (api_Found)) × (api_Pair) × (Bool) × (Int) × Unit) ⊕ (Unit))) :=
 match pool_Get (s.2.2.2.1.1, s.2.1, ()) with
 | none => none
 | some r0 =>
  bif (!decide ((r0.2.1 : Int) = (0 : Int))) then
   some (.inr (.inl (r0.2.1, s.2.2.1, (([] : List UInt8), (([] : List UInt8), ((0 : Int), ()))), false, (0 : Int), ())))
  else
   let t1 : Int := (IntKind.i64.wrap (s.2.2.2.2.2.2.2.2.1 + (1 : Int)))
   match tree_leaf (r0.1, ()) with
   | none => none
   | some r2 =>
    bif r2.1 then
     match table_Find (r0.1.1, s.1, ()) with
     | none => none
     | some r3 =>
      some (.inr (.inl ((0 : Int), s.2.2.1, r3.1, r3.2.1, t1, ())))
    else
     match trace_Key (s.1, r0.1.2.2.2.2.1, ()) with
     | none => none
     | some r3 =>
      bif r3.1.1 then
       some (.inr (.inl ((0 : Int), (r3.1 :: s.2.2.1), (([] : List UInt8), (([] : List UInt8), ((0 : Int), ()))), false, t1, ())))
      else
       match route_Kid (r3.1.2.2.2.1, r0.1.2.1, ()) with
       | none => none
       | some r4 =>
        bif (decide ((0 : Int) ≤ r4.1) && decide ((r4.1 : Int) < (List.length r0.1.2.2.1 : Int))) then
         let t5 : Int := (List.getD r0.1.2.2.1 (Int.toNat r4.1) (0 : Int))
         some (.inl (r3.1.2.2.2.1, t5, (r3.1 :: s.2.2.1), s.2.2.2.1, s.2.2.2.2.1, s.2.2.2.2.2.1, s.2.2.2.2.2.2.1, s.2.2.2.2.2.2.2.1, t1, ()))
        else
         none
def tree_Get_l0 (s : (List UInt8) × (Int) × (List (api_Found)) × (api_Tree) × (List UInt8) × (List UInt8) × (Int) × (Bool) × (Int) × Unit) : Option (((Int) × (List (api_Found)) × (api_Pair) × (Bool) × (Int) × Unit) ⊕ (Unit)) := loopO (tree_Get_b0) s
def tree_Get_db (s : (Int) × (List (api_Found)) × (api_Pair) × (Bool) × (Int) × Unit) : Option (((Int) × (List (api_Found)) × (api_Pair) × (Bool) × (Int) × Unit) ⊕ (((Int) × (api_Pair) × (Bool) × (Int) × Unit) ⊕ (Unit))) :=
 bif (List.isEmpty s.2.1) then
  some (.inr (.inl (s.1, s.2.2.1, s.2.2.2.1, s.2.2.2.2.1, ())))
 else
  match (List.head? s.2.1) with
  | none => none
  | some x0 =>
   let t1 : Bool := (decide ((s.2.2.2.2.1 : Int) > (0 : Int)))
   bif t1 then
    match trace_Value (x0, s.2.2.1, s.2.2.2.1, ()) with
    | none => none
    | some r2 =>
     some (.inl (s.1, (List.tail s.2.1), r2.1, r2.2.1, s.2.2.2.2.1, ()))
   else
    some (.inl (s.1, (List.tail s.2.1), s.2.2.1, s.2.2.2.1, s.2.2.2.2.1, ()))
def tree_Get_dl (s : (Int) × (List (api_Found)) × (api_Pair) × (Bool) × (Int) × Unit) : Option (((Int) × (api_Pair) × (Bool) × (Int) × Unit) ⊕ (Unit)) := loopO (tree_Get_db) s
def tree_Get (s : (api_Tree) × (List UInt8) × Unit) : Option (ref12_Got) :=
 match tree_Get_l0 (s.2.1, s.1.2.1, ([] : List (api_Found)), s.1, ([] : List UInt8), ([] : List UInt8), (0 : Int), false, (0 : Int), ()) with
 | none => none
 | some (.inl z0) =>
  match tree_Get_dl (z0.1, z0.2.1, z0.2.2.1, z0.2.2.2.1, z0.2.2.2.2.1, ()) with
  | none => none
  | some (.inl z1) =>
   some (z1.2.1, z1.2.2.1, z1.2.2.2.1, z1.1, ())
  | some (.inr z1) =>
   none
 | some (.inr z0) =>
  none
def cost_Reads (s : (api_Tree) × (List UInt8) × Unit) : Option (api_Bill) :=
 match tree_Get (s.1, s.2.1, ()) with
 | none => none
 | some r0 =>
  some (r0.2.2.1, r0.2.2.2.1, ())
def slices_Equal_api_Pair_api_Pair_b0 (s : (List (api_Pair)) × (List (api_Pair)) × (Int) × (Int) × Unit) : Option (((List (api_Pair)) × (List (api_Pair)) × (Int) × (Int) × Unit) ⊕ (((Bool) × Unit) ⊕ (Unit))) :=
 bif (decide ((s.2.2.2.1 : Int) < s.2.2.1)) then
  bif (decide ((0 : Int) ≤ s.2.2.2.1) && decide ((s.2.2.2.1 : Int) < (List.length s.1 : Int))) then
   let t0 : api_Pair := (List.getD s.1 (Int.toNat s.2.2.2.1) (([] : List UInt8), (([] : List UInt8), ((0 : Int), ()))))
   bif (decide ((0 : Int) ≤ s.2.2.2.1) && decide ((s.2.2.2.1 : Int) < (List.length s.2.1 : Int))) then
    let t1 : api_Pair := (List.getD s.2.1 (Int.toNat s.2.2.2.1) (([] : List UInt8), (([] : List UInt8), ((0 : Int), ()))))
    let t2 : Bool := (!(Ty.eqb tapi_Pair t0 t1))
    bif t2 then
     some (.inr (.inl (false, ())))
    else
     let t3 : Int := (IntKind.i64.wrap (s.2.2.2.1 + (1 : Int)))
     some (.inl (s.1, s.2.1, s.2.2.1, t3, ()))
   else
    none
  else
   none
 else
  some (.inr (.inr (())))
def slices_Equal_api_Pair_api_Pair_l0 (s : (List (api_Pair)) × (List (api_Pair)) × (Int) × (Int) × Unit) : Option (((Bool) × Unit) ⊕ (Unit)) := loopO (slices_Equal_api_Pair_api_Pair_b0) s
def slices_Equal_api_Pair_api_Pair (s : (List (api_Pair)) × (List (api_Pair)) × Unit) : Option ((Bool) × Unit) :=
 let t0 : Bool := (!decide ((((List.length s.1) : Int) : Int) = ((List.length s.2.1) : Int)))
 bif t0 then
  some (false, ())
 else
  match slices_Equal_api_Pair_api_Pair_l0 (s.1, s.2.1, ((List.length s.1) : Int), (0 : Int), ()) with
  | none => none
  | some (.inl z1) =>
   some (z1.1, ())
  | some (.inr z1) =>
   some (true, ())
def slices_Equal_string_string_b0 (s : (List (List UInt8)) × (List (List UInt8)) × (Int) × (Int) × Unit) : Option (((List (List UInt8)) × (List (List UInt8)) × (Int) × (Int) × Unit) ⊕ (((Bool) × Unit) ⊕ (Unit))) :=
 bif (decide ((s.2.2.2.1 : Int) < s.2.2.1)) then
  bif (decide ((0 : Int) ≤ s.2.2.2.1) && decide ((s.2.2.2.1 : Int) < (List.length s.1 : Int))) then
   let t0 : List UInt8 := (List.getD s.1 (Int.toNat s.2.2.2.1) ([] : List UInt8))
   bif (decide ((0 : Int) ≤ s.2.2.2.1) && decide ((s.2.2.2.1 : Int) < (List.length s.2.1 : Int))) then
    let t1 : List UInt8 := (List.getD s.2.1 (Int.toNat s.2.2.2.1) ([] : List UInt8))
    bif (!decide ((t0 : List UInt8) = t1)) then
     some (.inr (.inl (false, ())))
    else
     let t2 : Int := (IntKind.i64.wrap (s.2.2.2.1 + (1 : Int)))
     some (.inl (s.1, s.2.1, s.2.2.1, t2, ()))
   else
    none
  else
   none
 else
  some (.inr (.inr (())))
def slices_Equal_string_string_l0 (s : (List (List UInt8)) × (List (List UInt8)) × (Int) × (Int) × Unit) : Option (((Bool) × Unit) ⊕ (Unit)) := loopO (slices_Equal_string_string_b0) s
def slices_Equal_string_string (s : (List (List UInt8)) × (List (List UInt8)) × Unit) : Option ((Bool) × Unit) :=
 let t0 : Bool := (!decide ((((List.length s.1) : Int) : Int) = ((List.length s.2.1) : Int)))
 bif t0 then
  some (false, ())
 else
  match slices_Equal_string_string_l0 (s.1, s.2.1, ((List.length s.1) : Int), (0 : Int), ()) with
  | none => none
  | some (.inl z1) =>
   some (z1.1, ())
  | some (.inr z1) =>
   some (true, ())
def slices_Equal_int_int_b0 (s : (List (Int)) × (List (Int)) × (Int) × (Int) × Unit) : Option (((List (Int)) × (List (Int)) × (Int) × (Int) × Unit) ⊕ (((Bool) × Unit) ⊕ (Unit))) :=
 bif (decide ((s.2.2.2.1 : Int) < s.2.2.1)) then
  bif (decide ((0 : Int) ≤ s.2.2.2.1) && decide ((s.2.2.2.1 : Int) < (List.length s.1 : Int))) then
   let t0 : Int := (List.getD s.1 (Int.toNat s.2.2.2.1) (0 : Int))
   bif (decide ((0 : Int) ≤ s.2.2.2.1) && decide ((s.2.2.2.1 : Int) < (List.length s.2.1 : Int))) then
    let t1 : Int := (List.getD s.2.1 (Int.toNat s.2.2.2.1) (0 : Int))
    bif (!decide ((t0 : Int) = t1)) then
     some (.inr (.inl (false, ())))
    else
     let t2 : Int := (IntKind.i64.wrap (s.2.2.2.1 + (1 : Int)))
     some (.inl (s.1, s.2.1, s.2.2.1, t2, ()))
   else
    none
  else
   none
 else
  some (.inr (.inr (())))
def slices_Equal_int_int_l0 (s : (List (Int)) × (List (Int)) × (Int) × (Int) × Unit) : Option (((Bool) × Unit) ⊕ (Unit)) := loopO (slices_Equal_int_int_b0) s
def slices_Equal_int_int (s : (List (Int)) × (List (Int)) × Unit) : Option ((Bool) × Unit) :=
 let t0 : Bool := (!decide ((((List.length s.1) : Int) : Int) = ((List.length s.2.1) : Int)))
 bif t0 then
  some (false, ())
 else
  match slices_Equal_int_int_l0 (s.1, s.2.1, ((List.length s.1) : Int), (0 : Int), ()) with
  | none => none
  | some (.inl z1) =>
   some (z1.1, ())
  | some (.inr z1) =>
   some (true, ())
def slices_Equal_api_Sum_api_Sum_b0 (s : (List (api_Sum)) × (List (api_Sum)) × (Int) × (Int) × Unit) : Option (((List (api_Sum)) × (List (api_Sum)) × (Int) × (Int) × Unit) ⊕ (((Bool) × Unit) ⊕ (Unit))) :=
 bif (decide ((s.2.2.2.1 : Int) < s.2.2.1)) then
  bif (decide ((0 : Int) ≤ s.2.2.2.1) && decide ((s.2.2.2.1 : Int) < (List.length s.1 : Int))) then
   let t0 : api_Sum := (List.getD s.1 (Int.toNat s.2.2.2.1) (((0 : Int), ((0 : Int), ())), (((0 : Int), ((0 : Int), ())), ())))
   bif (decide ((0 : Int) ≤ s.2.2.2.1) && decide ((s.2.2.2.1 : Int) < (List.length s.2.1 : Int))) then
    let t1 : api_Sum := (List.getD s.2.1 (Int.toNat s.2.2.2.1) (((0 : Int), ((0 : Int), ())), (((0 : Int), ((0 : Int), ())), ())))
    let t2 : Bool := (!(Ty.eqb tapi_Sum t0 t1))
    bif t2 then
     some (.inr (.inl (false, ())))
    else
     let t3 : Int := (IntKind.i64.wrap (s.2.2.2.1 + (1 : Int)))
     some (.inl (s.1, s.2.1, s.2.2.1, t3, ()))
   else
    none
  else
   none
 else
  some (.inr (.inr (())))
def slices_Equal_api_Sum_api_Sum_l0 (s : (List (api_Sum)) × (List (api_Sum)) × (Int) × (Int) × Unit) : Option (((Bool) × Unit) ⊕ (Unit)) := loopO (slices_Equal_api_Sum_api_Sum_b0) s
def slices_Equal_api_Sum_api_Sum (s : (List (api_Sum)) × (List (api_Sum)) × Unit) : Option ((Bool) × Unit) :=
 let t0 : Bool := (!decide ((((List.length s.1) : Int) : Int) = ((List.length s.2.1) : Int)))
 bif t0 then
  some (false, ())
 else
  match slices_Equal_api_Sum_api_Sum_l0 (s.1, s.2.1, ((List.length s.1) : Int), (0 : Int), ()) with
  | none => none
  | some (.inl z1) =>
   some (z1.1, ())
  | some (.inr z1) =>
   some (true, ())
def slices_Equal_api_Msg_api_Msg_b0 (s : (List (api_Msg)) × (List (api_Msg)) × (Int) × (Int) × Unit) : Option (((List (api_Msg)) × (List (api_Msg)) × (Int) × (Int) × Unit) ⊕ (((Bool) × Unit) ⊕ (Unit))) :=
 bif (decide ((s.2.2.2.1 : Int) < s.2.2.1)) then
  bif (decide ((0 : Int) ≤ s.2.2.2.1) && decide ((s.2.2.2.1 : Int) < (List.length s.1 : Int))) then
   let t0 : api_Msg := (List.getD s.1 (Int.toNat s.2.2.2.1) ((0 : Int), (([] : List UInt8), (([] : List UInt8), ((([] : List UInt8), (([] : List UInt8), ())), (([] : List UInt8), (([] : List UInt8), ((0 : Int), ()))))))))
   bif (decide ((0 : Int) ≤ s.2.2.2.1) && decide ((s.2.2.2.1 : Int) < (List.length s.2.1 : Int))) then
    let t1 : api_Msg := (List.getD s.2.1 (Int.toNat s.2.2.2.1) ((0 : Int), (([] : List UInt8), (([] : List UInt8), ((([] : List UInt8), (([] : List UInt8), ())), (([] : List UInt8), (([] : List UInt8), ((0 : Int), ()))))))))
    let t2 : Bool := (!(Ty.eqb tapi_Msg t0 t1))
    bif t2 then
     some (.inr (.inl (false, ())))
    else
     let t3 : Int := (IntKind.i64.wrap (s.2.2.2.1 + (1 : Int)))
     some (.inl (s.1, s.2.1, s.2.2.1, t3, ()))
   else
    none
  else
   none
 else
  some (.inr (.inr (())))
def slices_Equal_api_Msg_api_Msg_l0 (s : (List (api_Msg)) × (List (api_Msg)) × (Int) × (Int) × Unit) : Option (((Bool) × Unit) ⊕ (Unit)) := loopO (slices_Equal_api_Msg_api_Msg_b0) s
def slices_Equal_api_Msg_api_Msg (s : (List (api_Msg)) × (List (api_Msg)) × Unit) : Option ((Bool) × Unit) :=
 let t0 : Bool := (!decide ((((List.length s.1) : Int) : Int) = ((List.length s.2.1) : Int)))
 bif t0 then
  some (false, ())
 else
  match slices_Equal_api_Msg_api_Msg_l0 (s.1, s.2.1, ((List.length s.1) : Int), (0 : Int), ()) with
  | none => none
  | some (.inl z1) =>
   some (z1.1, ())
  | some (.inr z1) =>
   some (true, ())
def cost_same (s : (api_Node) × (api_Node) × Unit) : Option ((Bool) × Unit) :=
 match slices_Equal_api_Pair_api_Pair (s.1.1, s.2.1.1, ()) with
 | none => none
 | some r0 =>
  bif r0.1 then
   match slices_Equal_string_string (s.1.2.1, s.2.1.2.1, ()) with
   | none => none
   | some r1 =>
    bif r1.1 then
     match slices_Equal_int_int (s.1.2.2.1, s.2.1.2.2.1, ()) with
     | none => none
     | some r2 =>
      bif r2.1 then
       match slices_Equal_api_Sum_api_Sum (s.1.2.2.2.1, s.2.1.2.2.2.1, ()) with
       | none => none
       | some r3 =>
        bif r3.1 then
         match slices_Equal_api_Msg_api_Msg (s.1.2.2.2.2.1, s.2.1.2.2.2.2.1, ()) with
         | none => none
         | some r4 =>
          some (r4.1, ())
        else
         some (false, ())
      else
       some (false, ())
    else
     some (false, ())
  else
   some (false, ())
def cost_Written_b0_j0 (s : (Int) × (List (api_Slot)) × (Int) × (Int) × (Bool) × (api_Pool) × Unit) : Option (((Int) × (List (api_Slot)) × (Int) × (Int) × (api_Pool) × Unit) ⊕ (((Int) × Unit) ⊕ (Unit))) :=
 bif s.2.2.2.2.1 then
  let t0 : Int := (IntKind.i64.wrap (s.2.2.2.1 + (1 : Int)))
  some (.inl ((IntKind.i64.wrap (s.1 + (1 : Int))), s.2.1, s.2.2.1, t0, s.2.2.2.2.2.1, ()))
 else
  let t0 : Int := (IntKind.i64.wrap (s.2.2.2.1 + (1 : Int)))
  some (.inl (s.1, s.2.1, s.2.2.1, t0, s.2.2.2.2.2.1, ()))

def cost_Written_b0 (s : (Int) × (List (api_Slot)) × (Int) × (Int) × (api_Pool) × Unit) : Option (((Int) × (List (api_Slot)) × (Int) × (Int) × (api_Pool) × Unit) ⊕ (((Int) × Unit) ⊕ (Unit))) :=
 bif (decide ((s.2.2.2.1 : Int) < s.2.2.1)) then
  bif (decide ((0 : Int) ≤ s.2.2.2.1) && decide ((s.2.2.2.1 : Int) < (List.length s.2.1 : Int))) then
   let t0 : api_Slot := (List.getD s.2.1 (Int.toNat s.2.2.2.1) (false, (false, ((0 : Int), ((([] : List (api_Pair)), (([] : List (List UInt8)), (([] : List (Int)), (([] : List (api_Sum)), (([] : List (api_Msg)), ()))))), ())))))
   bif t0.1 then
    let t1 : Bool := (decide ((s.2.2.2.1 : Int) ≥ ((List.length s.2.2.2.2.1.1) : Int)))
    bif (!t1) then
     bif (decide ((0 : Int) ≤ s.2.2.2.1) && decide ((s.2.2.2.1 : Int) < (List.length s.2.2.2.2.1.1 : Int))) then
      let t2 : api_Slot := (List.getD s.2.2.2.2.1.1 (Int.toNat s.2.2.2.1) (false, (false, ((0 : Int), ((([] : List (api_Pair)), (([] : List (List UInt8)), (([] : List (Int)), (([] : List (api_Sum)), (([] : List (api_Msg)), ()))))), ())))))
      bif (!(!t2.1)) then
       bif (decide ((0 : Int) ≤ s.2.2.2.1) && decide ((s.2.2.2.1 : Int) < (List.length s.2.2.2.2.1.1 : Int))) then
        let t3 : api_Slot := (List.getD s.2.2.2.2.1.1 (Int.toNat s.2.2.2.1) (false, (false, ((0 : Int), ((([] : List (api_Pair)), (([] : List (List UInt8)), (([] : List (Int)), (([] : List (api_Sum)), (([] : List (api_Msg)), ()))))), ())))))
        match cost_same (t3.2.2.2.1, t0.2.2.2.1, ()) with
        | none => none
        | some r4 =>
         cost_Written_b0_j0 (s.1, s.2.1, s.2.2.1, s.2.2.2.1, (!r4.1), s.2.2.2.2.1, ())
       else
        none
      else
       cost_Written_b0_j0 (s.1, s.2.1, s.2.2.1, s.2.2.2.1, true, s.2.2.2.2.1, ())
     else
      none
    else
     cost_Written_b0_j0 (s.1, s.2.1, s.2.2.1, s.2.2.2.1, true, s.2.2.2.2.1, ())
   else
    cost_Written_b0_j0 (s.1, s.2.1, s.2.2.1, s.2.2.2.1, false, s.2.2.2.2.1, ())
  else
   none
 else
  some (.inr (.inl (s.1, ())))
def cost_Written_l0 (s : (Int) × (List (api_Slot)) × (Int) × (Int) × (api_Pool) × Unit) : Option (((Int) × Unit) ⊕ (Unit)) := loopO (cost_Written_b0) s
def cost_Written (s : (api_Pool) × (api_Pool) × Unit) : Option ((Int) × Unit) :=
 match cost_Written_l0 ((0 : Int), s.2.1.1, ((List.length s.2.1.1) : Int), (0 : Int), s.1, ()) with
 | none => none
 | some (.inl z0) =>
  some (z0.1, ())
 | some (.inr z0) =>
  none
def cost_bill_write (s : api_Shape) : Option (api_Bill) :=
 some (s.2.1, (IntKind.i64.wrap (s.2.2.1 + s.1)), ())
def cost_Bill (s : (api_Tree) × (api_Tree) × (Int) × Unit) : Option (cost_bill) :=
 match cost_Written (s.1.1, s.2.1.1, ()) with
 | none => none
 | some r0 =>
  match cost_bill_write (r0.1, s.2.2.1, (0 : Int), ()) with
  | none => none
  | some r1 =>
   some ((r1.1, (r1.2.1, ())), ())
def tree_rightC1 (s : api_Shape) : Option ((Bool) × Unit) :=
 bif (decide ((s.2.1 : Int) ≤ s.1)) then
  some ((decide ((s.1 : Int) ≤ s.2.2.1)), ())
 else
  some (false, ())
def tree_right (s : (api_Shape) × Unit) : Option ((Bool) × Unit) :=
 match tree_rightC1 (s.1.1, (2 : Int), (64 : Int), ()) with
 | none => none
 | some r0 =>
  bif r0.1 then
   match tree_rightC1 (s.1.2.1, (2 : Int), (16 : Int), ()) with
   | none => none
   | some r1 =>
    bif r1.1 then
     match tree_rightC1 (s.1.2.2.1, (1 : Int), (64 : Int), ()) with
     | none => none
     | some r2 =>
      some (r2.1, ())
    else
     some (false, ())
  else
   some (false, ())
def pool_AddC1 (s : (api_Slot) × Unit) : Option ((Bool) × Unit) :=
 some ((!s.1.1), ())
def slices_IndexFunc_api_Slot_api_Slot_b0 (s : (List (api_Slot)) × (Int) × (Int) × Unit) : Option (((List (api_Slot)) × (Int) × (Int) × Unit) ⊕ (((Int) × Unit) ⊕ (Unit))) :=
 bif (decide ((s.2.2.1 : Int) < s.2.1)) then
  bif (decide ((0 : Int) ≤ s.2.2.1) && decide ((s.2.2.1 : Int) < (List.length s.1 : Int))) then
   let t0 : api_Slot := (List.getD s.1 (Int.toNat s.2.2.1) (false, (false, ((0 : Int), ((([] : List (api_Pair)), (([] : List (List UInt8)), (([] : List (Int)), (([] : List (api_Sum)), (([] : List (api_Msg)), ()))))), ())))))
   match pool_AddC1 (t0, ()) with
   | none => none
   | some r1 =>
    bif r1.1 then
     some (.inr (.inl (s.2.2.1, ())))
    else
     some (.inl (s.1, s.2.1, (IntKind.i64.wrap (s.2.2.1 + (1 : Int))), ()))
  else
   none
 else
  some (.inr (.inr (())))
def slices_IndexFunc_api_Slot_api_Slot_l0 (s : (List (api_Slot)) × (Int) × (Int) × Unit) : Option (((Int) × Unit) ⊕ (Unit)) := loopO (slices_IndexFunc_api_Slot_api_Slot_b0) s
def slices_IndexFunc_api_Slot_api_Slot (s : api_Pool) : Option ((Int) × Unit) :=
 match slices_IndexFunc_api_Slot_api_Slot_l0 (s.1, ((List.length s.1) : Int), (0 : Int), ()) with
 | none => none
 | some (.inl z0) =>
  some (z0.1, ())
 | some (.inr z0) =>
  some ((-1 : Int), ())
def pool_clone (s : (api_Pool) × Unit) : Option (api_Pool) :=
 bif (decide ((0 : Int) ≤ ((List.length s.1.1) : Int)) && decide ((((List.length s.1.1) : Int) : Int) ≤ ((List.length s.1.1) : Int)) && decide (((List.length s.1.1) : Int) * (136 : Int) ≤ (roomMax : Int))) then
  let t0 : List (api_Slot) := (List.take (List.length (List.replicate (Int.toNat ((List.length s.1.1) : Int)) (false, (false, ((0 : Int), ((([] : List (api_Pair)), (([] : List (List UInt8)), (([] : List (Int)), (([] : List (api_Sum)), (([] : List (api_Msg)), ()))))), ())))))) s.1.1)
  let t1 : List (api_Slot) := (List.take 0 (List.replicate (Int.toNat ((List.length s.1.1) : Int)) (false, (false, ((0 : Int), ((([] : List (api_Pair)), (([] : List (List UInt8)), (([] : List (Int)), (([] : List (api_Sum)), (([] : List (api_Msg)), ()))))), ()))))) ++ t0 ++ List.drop (0 + List.length t0) (List.replicate (Int.toNat ((List.length s.1.1) : Int)) (false, (false, ((0 : Int), ((([] : List (api_Pair)), (([] : List (List UInt8)), (([] : List (Int)), (([] : List (api_Sum)), (([] : List (api_Msg)), ()))))), ()))))))
  some (t1, ())
 else
  none
def pool_Add_b0 (s : (List (Int)) × (Int) × (Int) × (api_Pool) × (api_Node) × (List (api_Slot)) × Unit) : Option (((List (Int)) × (Int) × (Int) × (api_Pool) × (api_Node) × (List (api_Slot)) × Unit) ⊕ (((Int) × (Int) × (api_Pool) × Unit) ⊕ ((api_Pool) × (api_Node) × (List (api_Slot)) × Unit))) :=
 bif (decide ((s.2.2.1 : Int) < s.2.1)) then
  bif (decide ((0 : Int) ≤ s.2.2.1) && decide ((s.2.2.1 : Int) < (List.length s.1 : Int))) then
   let t0 : Int := (List.getD s.1 (Int.toNat s.2.2.1) (0 : Int))
   match pool_used (s.2.2.2.1, t0, ()) with
   | none => none
   | some r1 =>
    bif (!r1.1) then
     some (.inr (.inl ((0 : Int), (110 : Int), s.2.2.2.1, ())))
    else
     some (.inl (s.1, s.2.1, (IntKind.i64.wrap (s.2.2.1 + (1 : Int))), s.2.2.2.1, s.2.2.2.2.1, s.2.2.2.2.2.1, ()))
  else
   none
 else
  some (.inr (.inr (s.2.2.2.1, s.2.2.2.2.1, s.2.2.2.2.2.1, ())))
def pool_Add_l0 (s : (List (Int)) × (Int) × (Int) × (api_Pool) × (api_Node) × (List (api_Slot)) × Unit) : Option (((Int) × (Int) × (api_Pool) × Unit) ⊕ ((api_Pool) × (api_Node) × (List (api_Slot)) × Unit)) := loopO (pool_Add_b0) s
def pool_Add_b1 (s : (Int) × (List (Int)) × (Int) × (Int) × (List (api_Slot)) × (List (api_Slot)) × Unit) : Option (((Int) × (List (Int)) × (Int) × (Int) × (List (api_Slot)) × (List (api_Slot)) × Unit) ⊕ (((Int) × (List (api_Slot)) × (List (api_Slot)) × Unit) ⊕ (Unit))) :=
 bif (decide ((s.2.2.2.1 : Int) < s.2.2.1)) then
  bif (decide ((0 : Int) ≤ s.2.2.2.1) && decide ((s.2.2.2.1 : Int) < (List.length s.2.1 : Int))) then
   let t0 : Int := (List.getD s.2.1 (Int.toNat s.2.2.2.1) (0 : Int))
   bif (decide ((0 : Int) ≤ t0) && decide ((t0 : Int) < (List.length s.2.2.2.2.2.1 : Int))) then
    let t1 : api_Slot := (List.getD s.2.2.2.2.2.1 (Int.toNat t0) (false, (false, ((0 : Int), ((([] : List (api_Pair)), (([] : List (List UInt8)), (([] : List (Int)), (([] : List (api_Sum)), (([] : List (api_Msg)), ()))))), ())))))
    let t2 : Int := (IntKind.i64.wrap (t1.2.2.1 + (1 : Int)))
    bif (decide ((0 : Int) ≤ t0) && decide ((t0 : Int) < (List.length s.2.2.2.2.2.1 : Int))) then
     let t3 : List (api_Slot) := (List.set s.2.2.2.2.2.1 (Int.toNat t0) ((List.getD s.2.2.2.2.2.1 (Int.toNat t0) (false, (false, ((0 : Int), ((([] : List (api_Pair)), (([] : List (List UInt8)), (([] : List (Int)), (([] : List (api_Sum)), (([] : List (api_Msg)), ()))))), ()))))).1, ((List.getD s.2.2.2.2.2.1 (Int.toNat t0) (false, (false, ((0 : Int), ((([] : List (api_Pair)), (([] : List (List UInt8)), (([] : List (Int)), (([] : List (api_Sum)), (([] : List (api_Msg)), ()))))), ()))))).2.1, (t2, (List.getD s.2.2.2.2.2.1 (Int.toNat t0) (false, (false, ((0 : Int), ((([] : List (api_Pair)), (([] : List (List UInt8)), (([] : List (Int)), (([] : List (api_Sum)), (([] : List (api_Msg)), ()))))), ()))))).2.2.2))))
     let t4 : Int := (IntKind.i64.wrap (s.2.2.2.1 + (1 : Int)))
     some (.inl (s.1, s.2.1, s.2.2.1, t4, s.2.2.2.2.1, t3, ()))
    else
     none
   else
    none
  else
   none
 else
  some (.inr (.inl (s.1, s.2.2.2.2.1, s.2.2.2.2.2.1, ())))
def pool_Add_l1 (s : (Int) × (List (Int)) × (Int) × (Int) × (List (api_Slot)) × (List (api_Slot)) × Unit) : Option (((Int) × (List (api_Slot)) × (List (api_Slot)) × Unit) ⊕ (Unit)) := loopO (pool_Add_b1) s
def pool_Add_j1 (s : (Int) × (api_Node) × (List (api_Slot)) × (List (api_Slot)) × Unit) : Option (ref11_Added) :=
 bif (decide ((0 : Int) ≤ s.1) && decide ((s.1 : Int) < (List.length s.2.2.2.1 : Int))) then
  let t0 : List (api_Slot) := (List.set s.2.2.2.1 (Int.toNat s.1) (true, (false, ((1 : Int), (s.2.1, ())))))
  match pool_Add_l1 (s.1, s.2.1.2.2.1, ((List.length s.2.1.2.2.1) : Int), (0 : Int), s.2.2.1, t0, ()) with
  | none => none
  | some (.inl z1) =>
   some ((z1.2.2.1, ()), z1.1, (0 : Int), ())
  | some (.inr z1) =>
   none
 else
  none
def pool_Add_j0 (s : (Int) × (api_Pool) × (api_Node) × (List (api_Slot)) × Unit) : Option (ref11_Added) :=
 bif (decide ((s.1 : Int) ≥ (4096 : Int))) then
  some (s.2.1, (0 : Int), (111 : Int), ())
 else
  match pool_clone (s.2.1, ()) with
  | none => none
  | some r0 =>
   let t1 : Bool := (decide ((s.1 : Int) = ((List.length r0.1) : Int)))
   bif t1 then
    bif (decide ((List.length r0.1 + List.length ([(false, (false, ((0 : Int), ((([] : List (api_Pair)), (([] : List (List UInt8)), (([] : List (Int)), (([] : List (api_Sum)), (([] : List (api_Msg)), ()))))), ()))))] : List (api_Slot))) * 136 ≤ roomMax)) then
     let t2 : List (api_Slot) := (r0.1 ++ ([(false, (false, ((0 : Int), ((([] : List (api_Pair)), (([] : List (List UInt8)), (([] : List (Int)), (([] : List (api_Sum)), (([] : List (api_Msg)), ()))))), ()))))] : List (api_Slot)))
     pool_Add_j1 (s.1, s.2.2.1, s.2.2.2.1, t2, ())
    else
     none
   else
    pool_Add_j1 (s.1, s.2.2.1, s.2.2.2.1, r0.1, ())

def pool_Add (s : (api_Pool) × (api_Node) × Unit) : Option (ref11_Added) :=
 match pool_Add_l0 (s.2.1.2.2.1, ((List.length s.2.1.2.2.1) : Int), (0 : Int), s.1, s.2.1, ([] : List (api_Slot)), ()) with
 | none => none
 | some (.inl z0) =>
  some (z0.2.2.1, z0.1, z0.2.1, ())
 | some (.inr z0) =>
  match slices_IndexFunc_api_Slot_api_Slot (z0.1.1, ()) with
  | none => none
  | some r1 =>
   bif (decide ((r1.1 : Int) < (0 : Int))) then
    pool_Add_j0 (((List.length z0.1.1) : Int), z0.1, z0.2.1, z0.2.2.1, ())
   else
    pool_Add_j0 (r1.1, z0.1, z0.2.1, z0.2.2.1, ())
def tree_New (s : (api_Shape) × Unit) : Option ((api_Tree) × (Int) × Unit) :=
 match tree_right (s.1, ()) with
 | none => none
 | some r0 =>
  bif (!r0.1) then
   some (((([] : List (api_Slot)), ()), ((0 : Int), (((0 : Int), ((0 : Int), ((0 : Int), ()))), ()))), (120 : Int), ())
  else
   match pool_Add ((([] : List (api_Slot)), ()), (([] : List (api_Pair)), (([] : List (List UInt8)), (([] : List (Int)), (([] : List (api_Sum)), (([] : List (api_Msg)), ()))))), ()) with
   | none => none
   | some r1 =>
    some ((r1.1, (r1.2.1, (s.1, ()))), r1.2.2.1, ())
def cost_Limit (s : api_Bill) : Option ((Int) × Unit) :=
 let t0 : Int := (if ((10000 : Int) : Int) < s.1 then (10000 : Int) else s.1)
 let t1 : Int := (if ((0 : Int) : Int) < t0 then t0 else (0 : Int))
 let t2 : Int := (if ((10000 : Int) : Int) < s.2.1 then (10000 : Int) else s.2.1)
 let t3 : Int := (if ((0 : Int) : Int) < t2 then t2 else (0 : Int))
 let t4 : Int := (IntKind.i64.wrap ((IntKind.i64.wrap (t1 + (1 : Int))) * (IntKind.i64.wrap (t1 + (1 : Int)))))
 let t5 : Int := (IntKind.i64.wrap (t4 * (IntKind.i64.wrap (t3 + (1 : Int)))))
 some (t5, ())
def law30_sanity_step (x_ref12_Of : ((List (api_Pair)) × (List (List UInt8)) × (List (api_Msg)) × Unit) → Option ((api_Tree) × Unit)) (x_cost_Weight : ((api_Tree) × Unit) → Option (api_Bill)) (x_cost_Reads : ((api_Tree) × (List UInt8) × Unit) → Option (api_Bill)) (x_cost_Written : ((api_Pool) × (api_Pool) × Unit) → Option ((Int) × Unit)) (x_cost_Bill : ((api_Tree) × (api_Tree) × (Int) × Unit) → Option (cost_bill)) (x_tree_New : ((api_Shape) × Unit) → Option ((api_Tree) × (Int) × Unit)) (x_cost_Limit : (api_Bill) → Option ((Int) × Unit)) (s : Unit) : Option ((Bool) × Unit) :=
 match x_ref12_Of (([] : List (api_Pair)), ([([98] : List UInt8)] : List (List UInt8)), ([((1 : Int), (([97] : List UInt8), (([] : List UInt8), ((([] : List UInt8), (([] : List UInt8), ())), (([] : List UInt8), (([] : List UInt8), ((0 : Int), ()))))))), ((6 : Int), (([] : List UInt8), (([] : List UInt8), ((([] : List UInt8), (([] : List UInt8), ())), (([] : List UInt8), (([] : List UInt8), ((0 : Int), ())))))))] : List (api_Msg)), ()) with
 | none => none
 | some r0 =>
  match x_cost_Weight (r0.1, ()) with
  | none => none
  | some r1 =>
   match x_cost_Reads (r0.1, ([97] : List UInt8), ()) with
   | none => none
   | some r2 =>
    match x_cost_Reads (r0.1, ([99] : List UInt8), ()) with
    | none => none
    | some r3 =>
     match x_cost_Bill (r0.1, r0.1, (5 : Int), ()) with
     | none => none
     | some r4 =>
      match x_tree_New (r0.1.2.2.1, ()) with
      | none => none
      | some r5 =>
       match x_cost_Weight (r5.1, ()) with
       | none => none
       | some r6 =>
        bif (decide ((r1.1 : Int) = (3 : Int))) then
         bif (decide ((r1.2.1 : Int) = (0 : Int))) then
          bif (decide ((r2.1 : Int) = (1 : Int))) then
           bif (decide ((r2.2.1 : Int) = (0 : Int))) then
            bif (decide ((r3.1 : Int) = (2 : Int))) then
             bif (decide ((r3.2.1 : Int) = (0 : Int))) then
              let t7 : Bool := (Ty.eqb tapi_Bill r4.1 ((5 : Int), ((0 : Int), ())))
              bif t7 then
               bif (decide ((r5.2.1 : Int) = (0 : Int))) then
                bif (decide ((r6.1 : Int) = (0 : Int))) then
                 bif (decide ((r6.2.1 : Int) = (0 : Int))) then
                  match x_cost_Written ((([] : List (api_Slot)), ()), r0.1.1, ()) with
                  | none => none
                  | some r8 =>
                   bif (decide ((r8.1 : Int) = (3 : Int))) then
                    match x_cost_Written (r0.1.1, (([] : List (api_Slot)), ()), ()) with
                    | none => none
                    | some r9 =>
                     bif (decide ((r9.1 : Int) = (0 : Int))) then
                      match x_cost_Limit ((2 : Int), (3 : Int), ()) with
                      | none => none
                      | some r10 =>
                       bif (decide ((r10.1 : Int) = (36 : Int))) then
                        match x_cost_Limit ((-1 : Int), (0 : Int), ()) with
                        | none => none
                        | some r11 =>
                         some ((decide ((r11.1 : Int) = (1 : Int))), ())
                       else
                        some (false, ())
                     else
                      some (false, ())
                   else
                    some (false, ())
                 else
                  some (false, ())
                else
                 some (false, ())
               else
                some (false, ())
              else
               some (false, ())
             else
              some (false, ())
            else
             some (false, ())
           else
            some (false, ())
          else
           some (false, ())
         else
          some (false, ())
        else
         some (false, ())
def law30_sanity (s : Unit) : Option ((Bool) × Unit) := law30_sanity_step ref12_Of cost_Weight cost_Reads cost_Written cost_Bill tree_New cost_Limit s
def ref04_Key (s : (Int) × Unit) : Option ((List UInt8) × Unit) :=
 let t0 : Bool := (decide (((Int.tmod s.1 (24 : Int)) : Int) < (20 : Int)))
 bif t0 then
  let t1 : Int := (IntKind.u8.wrap (Int.tdiv (Int.tmod s.1 (24 : Int)) (5 : Int)))
  bif (decide ((0 : Int) ≤ t1) && decide ((t1 : Int) < (List.length ([([97, 47] : List UInt8), ([98, 47] : List UInt8), ([97, 47, 98, 47] : List UInt8), ([99, 47] : List UInt8)] : List (List UInt8)) : Int))) then
   let t2 : List UInt8 := (List.getD ([([97, 47] : List UInt8), ([98, 47] : List UInt8), ([97, 47, 98, 47] : List UInt8), ([99, 47] : List UInt8)] : List (List UInt8)) (Int.toNat t1) ([] : List UInt8))
   let t3 : Int := (Int.tmod (Int.tmod s.1 (24 : Int)) (5 : Int))
   bif (decide ((0 : Int) ≤ t3) && decide ((t3 : Int) < (List.length ([([1] : List UInt8), ([2, 0, 0] : List UInt8), ([2, 0, 1] : List UInt8), ([2, 0, 2] : List UInt8), ([3, 120] : List UInt8)] : List (List UInt8)) : Int))) then
    let t4 : List UInt8 := (List.getD ([([1] : List UInt8), ([2, 0, 0] : List UInt8), ([2, 0, 1] : List UInt8), ([2, 0, 2] : List UInt8), ([3, 120] : List UInt8)] : List (List UInt8)) (Int.toNat t3) ([] : List UInt8))
    bif (decide (List.length t2 + List.length t4 ≤ roomMax)) then
     some ((t2 ++ t4), ())
    else
     none
   else
    none
  else
   none
 else
  let t1 : Int := (IntKind.u8.wrap ((Int.tmod s.1 (24 : Int)) - (20 : Int)))
  bif (decide ((0 : Int) ≤ t1) && decide ((t1 : Int) < (List.length ([([1] : List UInt8), ([5, 48, 48, 48, 48, 48, 48, 48, 49, 47, 1] : List UInt8), ([6, 97, 47, 1] : List UInt8), ([97, 47, 98, 47, 99, 47, 1] : List UInt8)] : List (List UInt8)) : Int))) then
   let t2 : List UInt8 := (List.getD ([([1] : List UInt8), ([5, 48, 48, 48, 48, 48, 48, 48, 49, 47, 1] : List UInt8), ([6, 97, 47, 1] : List UInt8), ([97, 47, 98, 47, 99, 47, 1] : List UInt8)] : List (List UInt8)) (Int.toNat t1) ([] : List UInt8))
   some (t2, ())
  else
   none
def ref04_Pair (s : (api_Shape) × Unit) : Option ((api_Pair) × Unit) :=
 match ref04_Key (s.1.1, ()) with
 | none => none
 | some r0 =>
  bif (decide ((0 : Int) ≤ (Int.tmod s.1.2.1 (4 : Int))) && decide (((Int.tmod s.1.2.1 (4 : Int)) : Int) < (List.length ([([] : List UInt8), ([118] : List UInt8), ([119, 120] : List UInt8), ([120, 121, 122] : List UInt8)] : List (List UInt8)) : Int))) then
   let t1 : List UInt8 := (List.getD ([([] : List UInt8), ([118] : List UInt8), ([119, 120] : List UInt8), ([120, 121, 122] : List UInt8)] : List (List UInt8)) (Int.toNat (Int.tmod s.1.2.1 (4 : Int))) ([] : List UInt8))
   let t2 : Int := (IntKind.i64.wrap (Int.tmod s.1.2.2.1 (4 : Int)))
   some ((r0.1, (t1, (t2, ()))), ())
  else
   none
def ref04_Put_b0_j0 (s : (List (api_Pair)) × (Bool) × (Int) × (api_Pair) × (List (api_Pair)) × Unit) : Option (((List (api_Pair)) × (Bool) × (Int) × (api_Pair) × (List (api_Pair)) × Unit) ⊕ (((Bool) × (api_Pair) × (List (api_Pair)) × Unit) ⊕ (Unit))) :=
 bif (decide ((0 : Int) ≤ s.2.2.1) && decide ((s.2.2.1 : Int) < (List.length s.1 : Int))) then
  let t0 : api_Pair := (List.getD s.1 (Int.toNat s.2.2.1) (([] : List UInt8), (([] : List UInt8), ((0 : Int), ()))))
  let t1 : Bool := (!decide ((t0.1 : List UInt8) = s.2.2.2.1.1))
  bif t1 then
   bif (decide ((0 : Int) ≤ s.2.2.1) && decide ((s.2.2.1 : Int) < (List.length s.1 : Int))) then
    let t2 : api_Pair := (List.getD s.1 (Int.toNat s.2.2.1) (([] : List UInt8), (([] : List UInt8), ((0 : Int), ()))))
    bif (decide ((List.length s.2.2.2.2.1 + List.length ([t2] : List (api_Pair))) * 40 ≤ roomMax)) then
     let t3 : List (api_Pair) := (s.2.2.2.2.1 ++ ([t2] : List (api_Pair)))
     some (.inl (s.1, s.2.1, (IntKind.i64.wrap (s.2.2.1 + (1 : Int))), s.2.2.2.1, t3, ()))
    else
     none
   else
    none
  else
   some (.inl (s.1, s.2.1, (IntKind.i64.wrap (s.2.2.1 + (1 : Int))), s.2.2.2.1, s.2.2.2.2.1, ()))
 else
  none
def ref04_Put_b0_j1 (s : (List (api_Pair)) × (Bool) × (Int) × (Bool) × (api_Pair) × (List (api_Pair)) × Unit) : Option (((List (api_Pair)) × (Bool) × (Int) × (api_Pair) × (List (api_Pair)) × Unit) ⊕ (((Bool) × (api_Pair) × (List (api_Pair)) × Unit) ⊕ (Unit))) :=
 bif s.2.2.2.1 then
  bif (decide ((List.length s.2.2.2.2.2.1 + List.length ([s.2.2.2.2.1] : List (api_Pair))) * 40 ≤ roomMax)) then
   let t0 : List (api_Pair) := (s.2.2.2.2.2.1 ++ ([s.2.2.2.2.1] : List (api_Pair)))
   ref04_Put_b0_j0 (s.1, true, s.2.2.1, s.2.2.2.2.1, t0, ())
  else
   none
 else
  ref04_Put_b0_j0 (s.1, s.2.1, s.2.2.1, s.2.2.2.2.1, s.2.2.2.2.2.1, ())

def ref04_Put_b0 (s : (List (api_Pair)) × (Bool) × (Int) × (api_Pair) × (List (api_Pair)) × Unit) : Option (((List (api_Pair)) × (Bool) × (Int) × (api_Pair) × (List (api_Pair)) × Unit) ⊕ (((Bool) × (api_Pair) × (List (api_Pair)) × Unit) ⊕ (Unit))) :=
 let t0 : Bool := (decide ((s.2.2.1 : Int) < ((List.length s.1) : Int)))
 bif t0 then
  bif (!s.2.1) then
   bif (decide ((0 : Int) ≤ s.2.2.1) && decide ((s.2.2.1 : Int) < (List.length s.1 : Int))) then
    let t1 : api_Pair := (List.getD s.1 (Int.toNat s.2.2.1) (([] : List UInt8), (([] : List UInt8), ((0 : Int), ()))))
    ref04_Put_b0_j1 (s.1, s.2.1, s.2.2.1, (!(Op.bytesLess t1.1 s.2.2.2.1.1)), s.2.2.2.1, s.2.2.2.2.1, ())
   else
    none
  else
   ref04_Put_b0_j1 (s.1, s.2.1, s.2.2.1, false, s.2.2.2.1, s.2.2.2.2.1, ())
 else
  some (.inr (.inl (s.2.1, s.2.2.2.1, s.2.2.2.2.1, ())))
def ref04_Put_l0 (s : (List (api_Pair)) × (Bool) × (Int) × (api_Pair) × (List (api_Pair)) × Unit) : Option (((Bool) × (api_Pair) × (List (api_Pair)) × Unit) ⊕ (Unit)) := loopO (ref04_Put_b0) s
def ref04_Put (s : (List (api_Pair)) × (api_Pair) × Unit) : Option ((List (api_Pair)) × Unit) :=
 match ref04_Put_l0 (s.1, false, (0 : Int), s.2.1, ([] : List (api_Pair)), ()) with
 | none => none
 | some (.inl z0) =>
  bif (!z0.1) then
   bif (decide ((List.length z0.2.2.1 + List.length ([z0.2.1] : List (api_Pair))) * 40 ≤ roomMax)) then
    let t1 : List (api_Pair) := (z0.2.2.1 ++ ([z0.2.1] : List (api_Pair)))
    some (t1, ())
   else
    none
  else
   some (z0.2.2.1, ())
 | some (.inr z0) =>
  none
def ref04_Made_b0_j0 (s : (List (api_Shape)) × (Int) × (Bool) × (List (api_Pair)) × Unit) : Option (((List (api_Shape)) × (Int) × (List (api_Pair)) × Unit) ⊕ (((List (api_Pair)) × Unit) ⊕ (Unit))) :=
 bif s.2.2.1 then
  bif (decide ((0 : Int) ≤ s.2.1) && decide ((s.2.1 : Int) < (List.length s.1 : Int))) then
   let t0 : api_Shape := (List.getD s.1 (Int.toNat s.2.1) ((0 : Int), ((0 : Int), ((0 : Int), ()))))
   match ref04_Pair (t0, ()) with
   | none => none
   | some r1 =>
    match ref04_Put (s.2.2.2.1, r1.1, ()) with
    | none => none
    | some r2 =>
     some (.inl (s.1, (IntKind.i64.wrap (s.2.1 + (1 : Int))), r2.1, ()))
  else
   none
 else
  some (.inr (.inl (s.2.2.2.1, ())))

def ref04_Made_b0 (s : (List (api_Shape)) × (Int) × (List (api_Pair)) × Unit) : Option (((List (api_Shape)) × (Int) × (List (api_Pair)) × Unit) ⊕ (((List (api_Pair)) × Unit) ⊕ (Unit))) :=
 let t0 : Bool := (decide ((s.2.1 : Int) < ((List.length s.1) : Int)))
 bif t0 then
  ref04_Made_b0_j0 (s.1, s.2.1, (decide ((s.2.1 : Int) < (40 : Int))), s.2.2.1, ())
 else
  ref04_Made_b0_j0 (s.1, s.2.1, false, s.2.2.1, ())
def ref04_Made_l0 (s : (List (api_Shape)) × (Int) × (List (api_Pair)) × Unit) : Option (((List (api_Pair)) × Unit) ⊕ (Unit)) := loopO (ref04_Made_b0) s
def ref04_Made (s : (List (api_Shape)) × Unit) : Option ((List (api_Pair)) × Unit) :=
 match ref04_Made_l0 (s.1, (0 : Int), ([] : List (api_Pair)), ()) with
 | none => none
 | some (.inl z0) =>
  some (z0.1, ())
 | some (.inr z0) =>
  none
def ref11_Get (s : ref12_built) : Option ((api_Node) × (Int) × Unit) :=
 match ref11_Used (s.1, s.2.1, ()) with
 | none => none
 | some r0 =>
  bif (!r0.1) then
   some ((([] : List (api_Pair)), (([] : List (List UInt8)), (([] : List (Int)), (([] : List (api_Sum)), (([] : List (api_Msg)), ()))))), (110 : Int), ())
  else
   bif (decide ((0 : Int) ≤ s.2.1) && decide ((s.2.1 : Int) < (List.length s.1.1 : Int))) then
    let t1 : api_Slot := (List.getD s.1.1 (Int.toNat s.2.1) (false, (false, ((0 : Int), ((([] : List (api_Pair)), (([] : List (List UInt8)), (([] : List (Int)), (([] : List (api_Sum)), (([] : List (api_Msg)), ()))))), ())))))
    bif t1.2.1 then
     some ((([] : List (api_Pair)), (([] : List (List UInt8)), (([] : List (Int)), (([] : List (api_Sum)), (([] : List (api_Msg)), ()))))), (112 : Int), ())
    else
     bif (decide ((0 : Int) ≤ s.2.1) && decide ((s.2.1 : Int) < (List.length s.1.1 : Int))) then
      let t2 : api_Slot := (List.getD s.1.1 (Int.toNat s.2.1) (false, (false, ((0 : Int), ((([] : List (api_Pair)), (([] : List (List UInt8)), (([] : List (Int)), (([] : List (api_Sum)), (([] : List (api_Msg)), ()))))), ())))))
      some (t2.2.2.2.1, (0 : Int), ())
     else
      none
   else
    none
def ref05_Path (s : (Int) × Unit) : Option ((List UInt8) × Unit) :=
 bif (decide ((0 : Int) ≤ (Int.tmod s.1 (5 : Int))) && decide (((Int.tmod s.1 (5 : Int)) : Int) < (List.length ([([97, 47] : List UInt8), ([98, 47] : List UInt8), ([97, 47, 98, 47] : List UInt8), ([99, 47] : List UInt8), ([100, 47] : List UInt8)] : List (List UInt8)) : Int))) then
  let t0 : List UInt8 := (List.getD ([([97, 47] : List UInt8), ([98, 47] : List UInt8), ([97, 47, 98, 47] : List UInt8), ([99, 47] : List UInt8), ([100, 47] : List UInt8)] : List (List UInt8)) (Int.toNat (Int.tmod s.1 (5 : Int))) ([] : List UInt8))
  some (t0, ())
 else
  none
def ref05_Key (s : (Int) × Unit) : Option ((List UInt8) × Unit) :=
 match ref05_Path ((Int.tmod s.1 (4 : Int)), ()) with
 | none => none
 | some r0 =>
  let t1 : Int := (IntKind.u8.wrap (Int.tdiv s.1 (4 : Int)))
  bif (decide ((0 : Int) ≤ (Int.tmod t1 (5 : Int))) && decide (((Int.tmod t1 (5 : Int)) : Int) < (List.length ([([1] : List UInt8), ([2, 0, 0] : List UInt8), ([2, 0, 1] : List UInt8), ([2, 0, 2] : List UInt8), ([3, 120] : List UInt8)] : List (List UInt8)) : Int))) then
   let t2 : List UInt8 := (List.getD ([([1] : List UInt8), ([2, 0, 0] : List UInt8), ([2, 0, 1] : List UInt8), ([2, 0, 2] : List UInt8), ([3, 120] : List UInt8)] : List (List UInt8)) (Int.toNat (Int.tmod t1 (5 : Int))) ([] : List UInt8))
   bif (decide (List.length r0.1 + List.length t2 ≤ roomMax)) then
    some ((r0.1 ++ t2), ())
   else
    none
  else
   none
def ref02_Prefix_b0 (s : (List UInt8) × (Int) × (List UInt8) × (List UInt8) × Unit) : Option (((List UInt8) × (Int) × (List UInt8) × (List UInt8) × Unit) ⊕ (((List UInt8) × (Int) × (List UInt8) × (List UInt8) × Unit) ⊕ (Unit))) :=
 bif (decide ((s.2.1 : Int) > (0 : Int))) then
  bif (decide ((0 : Int) ≤ (IntKind.i64.wrap (s.2.1 - (1 : Int)))) && decide (((IntKind.i64.wrap (s.2.1 - (1 : Int))) : Int) < (List.length s.1 : Int))) then
   let t0 : Int := ((List.getD s.1 (Int.toNat (IntKind.i64.wrap (s.2.1 - (1 : Int)))) 0).toNat : Int)
   bif (decide ((t0 : Int) = (255 : Int))) then
    some (.inl (s.1, (IntKind.i64.wrap (s.2.1 - (1 : Int))), s.2.2.1, s.2.2.2.1, ()))
   else
    some (.inr (.inl (s.1, s.2.1, s.2.2.1, s.2.2.2.1, ())))
  else
   none
 else
  some (.inr (.inl (s.1, s.2.1, s.2.2.1, s.2.2.2.1, ())))
def ref02_Prefix_l0 (s : (List UInt8) × (Int) × (List UInt8) × (List UInt8) × Unit) : Option (((List UInt8) × (Int) × (List UInt8) × (List UInt8) × Unit) ⊕ (Unit)) := loopO (ref02_Prefix_b0) s
def ref02_Prefix (s : (List UInt8) × Unit) : Option ((api_Span) × Unit) :=
 match ref02_Prefix_l0 (s.1, ((List.length s.1) : Int), ([] : List UInt8), ([] : List UInt8), ()) with
 | none => none
 | some (.inl z0) =>
  bif (decide ((z0.2.1 : Int) = (0 : Int))) then
   some ((z0.1, (([] : List UInt8), ())), ())
  else
   bif (decide (((0 : Int) : Int) ≤ (IntKind.i64.wrap (z0.2.1 - (1 : Int)))) && decide (((IntKind.i64.wrap (z0.2.1 - (1 : Int))) : Int) ≤ (List.length z0.1 : Int))) then
    let t1 : List UInt8 := (List.drop 0 (List.take (Int.toNat (IntKind.i64.wrap (z0.2.1 - (1 : Int)))) z0.1))
    bif (decide ((0 : Int) ≤ (IntKind.i64.wrap (z0.2.1 - (1 : Int)))) && decide (((IntKind.i64.wrap (z0.2.1 - (1 : Int))) : Int) < (List.length z0.1 : Int))) then
     let t2 : Int := ((List.getD z0.1 (Int.toNat (IntKind.i64.wrap (z0.2.1 - (1 : Int)))) 0).toNat : Int)
     let t3 : List UInt8 := (sOfBytes ([(IntKind.u8.wrap (t2 + (1 : Int)))] : List (Int)))
     bif (decide (List.length t1 + List.length t3 ≤ roomMax)) then
      some ((z0.1, ((t1 ++ t3), ())), ())
     else
      none
    else
     none
   else
    none
 | some (.inr z0) =>
  none
def ref02_Begins (s : api_Span) : Option ((Bool) × Unit) :=
 let t0 : Bool := (decide ((((List.length s.1) : Int) : Int) ≥ ((List.length s.2.1) : Int)))
 bif t0 then
  bif (decide (((0 : Int) : Int) ≤ ((List.length s.2.1) : Int)) && decide ((((List.length s.2.1) : Int) : Int) ≤ (List.length s.1 : Int))) then
   let t1 : List UInt8 := (List.drop 0 (List.take (Int.toNat ((List.length s.2.1) : Int)) s.1))
   some ((decide ((t1 : List UInt8) = s.2.1)), ())
  else
   none
 else
  some (false, ())
def ref05_Value (s : (Int) × Unit) : Option ((List UInt8) × Unit) :=
 bif (decide ((0 : Int) ≤ (Int.tmod s.1 (5 : Int))) && decide (((Int.tmod s.1 (5 : Int)) : Int) < (List.length ([([] : List UInt8), ([120] : List UInt8), ([121, 121] : List UInt8), ([49, 50, 51, 52, 53, 54, 55, 56, 57, 48] : List UInt8), ([0, 255] : List UInt8)] : List (List UInt8)) : Int))) then
  let t0 : List UInt8 := (List.getD ([([] : List UInt8), ([120] : List UInt8), ([121, 121] : List UInt8), ([49, 50, 51, 52, 53, 54, 55, 56, 57, 48] : List UInt8), ([0, 255] : List UInt8)] : List (List UInt8)) (Int.toNat (Int.tmod s.1 (5 : Int))) ([] : List UInt8))
  some (t0, ())
 else
  none
def ref02_One (s : (List UInt8) × Unit) : Option ((api_Span) × Unit) :=
 bif (decide (List.length s.1 + List.length ([0] : List UInt8) ≤ roomMax)) then
  some ((s.1, ((s.1 ++ ([0] : List UInt8)), ())), ())
 else
  none
def ref05_Made_c100013 (s : (List UInt8) × (List UInt8) × (List UInt8) × (Bool) × ((Int) × (Int) × (Int) × (Int) × (Int) × (Int) × Unit) × (Int) × (List UInt8) × (List UInt8) × (List UInt8) × (List UInt8) × (List UInt8) × (List UInt8) × (Int) × (api_Span) × Unit) : Option (((List UInt8) × (List UInt8) × (List UInt8) × ((Int) × (Int) × (Int) × (Int) × (Int) × (Int) × Unit) × (Int) × (List UInt8) × (List UInt8) × (List UInt8) × (List UInt8) × (List UInt8) × (List UInt8) × (Int) × (api_Span) × Unit) ⊕ (Unit)) :=
 bif s.2.2.2.1 then
  let t0 : Bool := (decide ((s.2.1 : List UInt8) = ([100, 47] : List UInt8)))
  bif t0 then
   some (.inl (s.1, s.2.1, ([99, 47] : List UInt8), s.2.2.2.2.1, s.2.2.2.2.2.1, s.2.2.2.2.2.2.1, s.2.2.2.2.2.2.2.1, s.2.2.2.2.2.2.2.2.1, s.2.2.2.2.2.2.2.2.2.1, s.2.2.2.2.2.2.2.2.2.2.1, s.2.2.2.2.2.2.2.2.2.2.2.1, s.2.2.2.2.2.2.2.2.2.2.2.2.1, s.2.2.2.2.2.2.2.2.2.2.2.2.2.1, ()))
  else
   some (.inl (s.1, s.2.1, ([100, 47] : List UInt8), s.2.2.2.2.1, s.2.2.2.2.2.1, s.2.2.2.2.2.2.1, s.2.2.2.2.2.2.2.1, s.2.2.2.2.2.2.2.2.1, s.2.2.2.2.2.2.2.2.2.1, s.2.2.2.2.2.2.2.2.2.2.1, s.2.2.2.2.2.2.2.2.2.2.2.1, s.2.2.2.2.2.2.2.2.2.2.2.2.1, s.2.2.2.2.2.2.2.2.2.2.2.2.2.1, ()))
 else
  some (.inl (s.1, s.2.1, s.2.2.1, s.2.2.2.2.1, s.2.2.2.2.2.1, s.2.2.2.2.2.2.1, s.2.2.2.2.2.2.2.1, s.2.2.2.2.2.2.2.2.1, s.2.2.2.2.2.2.2.2.2.1, s.2.2.2.2.2.2.2.2.2.2.1, s.2.2.2.2.2.2.2.2.2.2.2.1, s.2.2.2.2.2.2.2.2.2.2.2.2.1, s.2.2.2.2.2.2.2.2.2.2.2.2.2.1, ()))
def ref05_Made_c16 (s : (List UInt8) × (List UInt8) × (List UInt8) × ((Int) × (Int) × (Int) × (Int) × (Int) × (Int) × Unit) × (Int) × (List UInt8) × (List UInt8) × (List UInt8) × (List UInt8) × (List UInt8) × (List UInt8) × (Int) × (api_Span) × Unit) : Option ((api_Msg) ⊕ (Unit)) :=
 let t0 : Int := (Int.tmod s.2.2.2.1.2.2.2.2.2.1 (8 : Int))
 let t1 : Bool := (decide (((Int.tmod s.2.2.2.1.1 (6 : Int)) : Int) = (0 : Int)))
 bif t1 then
  match ref05_Value (s.2.2.2.1.2.2.1, ()) with
  | none => none
  | some r2 =>
   some (.inl ((1 : Int), s.1, r2.1, (([] : List UInt8), (([] : List UInt8), ())), ([] : List UInt8), ([] : List UInt8), (IntKind.i64.wrap t0), ()))
 else
  let t2 : Bool := (decide (((Int.tmod s.2.2.2.1.1 (6 : Int)) : Int) = (1 : Int)))
  bif t2 then
   some (.inl ((2 : Int), s.1, ([] : List UInt8), (([] : List UInt8), (([] : List UInt8), ())), ([] : List UInt8), ([] : List UInt8), (0 : Int), ()))
  else
   let t3 : Bool := (decide (((Int.tmod s.2.2.2.1.1 (6 : Int)) : Int) = (2 : Int)))
   bif t3 then
    some (.inl ((3 : Int), ([] : List UInt8), ([] : List UInt8), s.2.2.2.2.2.2.2.2.2.2.2.2.1, ([] : List UInt8), ([] : List UInt8), (0 : Int), ()))
   else
    let t4 : Bool := (decide (((Int.tmod s.2.2.2.1.1 (6 : Int)) : Int) = (3 : Int)))
    bif t4 then
     some (.inl ((4 : Int), ([] : List UInt8), ([] : List UInt8), (([] : List UInt8), (([] : List UInt8), ())), s.2.1, s.2.2.1, (0 : Int), ()))
    else
     let t5 : Bool := (decide (((Int.tmod s.2.2.2.1.1 (6 : Int)) : Int) = (4 : Int)))
     bif t5 then
      some (.inl ((5 : Int), ([] : List UInt8), ([] : List UInt8), (([] : List UInt8), (([] : List UInt8), ())), s.2.1, s.2.2.1, (0 : Int), ()))
     else
      some (.inl ((6 : Int), ([] : List UInt8), ([] : List UInt8), s.2.2.2.2.2.2.2.2.2.2.2.2.1, ([] : List UInt8), ([] : List UInt8), (IntKind.i64.wrap t0), ()))
def ref05_Made_c11 (s : (List UInt8) × ((Int) × (Int) × (Int) × (Int) × (Int) × (Int) × Unit) × (Int) × (List UInt8) × (List UInt8) × (List UInt8) × (List UInt8) × (List UInt8) × (List UInt8) × (Int) × (api_Span) × Unit) : Option ((api_Msg) ⊕ (Unit)) :=
 match ref05_Path (s.2.1.2.1, ()) with
 | none => none
 | some r0 =>
  match ref05_Path (s.2.1.2.2.2.1, ()) with
  | none => none
  | some r1 =>
   match ref02_Begins (r0.1, r1.1, ()) with
   | none => none
   | some r2 =>
    bif (!r2.1) then
     match ref02_Begins (r1.1, r0.1, ()) with
     | none => none
     | some r3 =>
      match ref05_Made_c100013 (s.1, r0.1, r1.1, r3.1, s.2.1, s.2.2.1, s.2.2.2.1, s.2.2.2.2.1, s.2.2.2.2.2.1, s.2.2.2.2.2.2.1, s.2.2.2.2.2.2.2.1, s.2.2.2.2.2.2.2.2.1, s.2.2.2.2.2.2.2.2.2.1, s.2.2.2.2.2.2.2.2.2.2.1, ()) with
      | none => none
      | some (.inl z4) =>
       match ref05_Made_c16 (z4.1, z4.2.1, z4.2.2.1, z4.2.2.2.1, z4.2.2.2.2.1, z4.2.2.2.2.2.1, z4.2.2.2.2.2.2.1, z4.2.2.2.2.2.2.2.1, z4.2.2.2.2.2.2.2.2.1, z4.2.2.2.2.2.2.2.2.2.1, z4.2.2.2.2.2.2.2.2.2.2.1, z4.2.2.2.2.2.2.2.2.2.2.2.1, z4.2.2.2.2.2.2.2.2.2.2.2.2.1, ()) with
       | none => none
       | some (.inl z5) =>
        some (.inl (z5.1, z5.2.1, z5.2.2.1, z5.2.2.2.1, z5.2.2.2.2.1, z5.2.2.2.2.2.1, z5.2.2.2.2.2.2.1, ()))
       | some (.inr z5) =>
        none
      | some (.inr z4) =>
       none
    else
     match ref05_Made_c100013 (s.1, r0.1, r1.1, true, s.2.1, s.2.2.1, s.2.2.2.1, s.2.2.2.2.1, s.2.2.2.2.2.1, s.2.2.2.2.2.2.1, s.2.2.2.2.2.2.2.1, s.2.2.2.2.2.2.2.2.1, s.2.2.2.2.2.2.2.2.2.1, s.2.2.2.2.2.2.2.2.2.2.1, ()) with
     | none => none
     | some (.inl z3) =>
      match ref05_Made_c16 (z3.1, z3.2.1, z3.2.2.1, z3.2.2.2.1, z3.2.2.2.2.1, z3.2.2.2.2.2.1, z3.2.2.2.2.2.2.1, z3.2.2.2.2.2.2.2.1, z3.2.2.2.2.2.2.2.2.1, z3.2.2.2.2.2.2.2.2.2.1, z3.2.2.2.2.2.2.2.2.2.2.1, z3.2.2.2.2.2.2.2.2.2.2.2.1, z3.2.2.2.2.2.2.2.2.2.2.2.2.1, ()) with
      | none => none
      | some (.inl z4) =>
       some (.inl (z4.1, z4.2.1, z4.2.2.1, z4.2.2.2.1, z4.2.2.2.2.1, z4.2.2.2.2.2.1, z4.2.2.2.2.2.2.1, ()))
      | some (.inr z4) =>
       none
     | some (.inr z3) =>
      none
def ref05_Made (s : ((Int) × (Int) × (Int) × (Int) × (Int) × (Int) × Unit) × Unit) : Option ((api_Msg) × Unit) :=
 match ref05_Key (s.1.2.1, ()) with
 | none => none
 | some r0 =>
  match ref05_Key (s.1.2.2.2.1, ()) with
  | none => none
  | some r1 =>
   let t2 : List UInt8 := (bif (Op.bytesLess r0.1 r1.1 || decide ((r0.1 : List UInt8) = r1.1)) then r0.1 else r1.1)
   let t3 : List UInt8 := (bif !(Op.bytesLess r0.1 r1.1) then r0.1 else r1.1)
   let t4 : Bool := (decide (((Int.tmod s.1.2.2.2.2.1 (4 : Int)) : Int) = (0 : Int)))
   bif t4 then
    match ref05_Path (s.1.2.1, ()) with
    | none => none
    | some r5 =>
     match ref02_Prefix (r5.1, ()) with
     | none => none
     | some r6 =>
      match ref05_Made_c11 (r0.1, s.1, (0 : Int), ([] : List UInt8), ([] : List UInt8), ([] : List UInt8), ([] : List UInt8), ([] : List UInt8), ([] : List UInt8), (0 : Int), r6.1, ()) with
      | none => none
      | some (.inl z7) =>
       some ((z7.1, (z7.2.1, (z7.2.2.1, (z7.2.2.2.1, (z7.2.2.2.2.1, (z7.2.2.2.2.2.1, (z7.2.2.2.2.2.2.1, ()))))))), ())
      | some (.inr z7) =>
       none
   else
    let t5 : Bool := (decide (((Int.tmod s.1.2.2.2.2.1 (16 : Int)) : Int) = (1 : Int)))
    bif t5 then
     match ref05_Made_c11 (r0.1, s.1, (0 : Int), ([] : List UInt8), ([] : List UInt8), ([] : List UInt8), ([] : List UInt8), ([] : List UInt8), ([] : List UInt8), (0 : Int), (r0.1, (([] : List UInt8), ())), ()) with
     | none => none
     | some (.inl z6) =>
      some ((z6.1, (z6.2.1, (z6.2.2.1, (z6.2.2.2.1, (z6.2.2.2.2.1, (z6.2.2.2.2.2.1, (z6.2.2.2.2.2.2.1, ()))))))), ())
     | some (.inr z6) =>
      none
    else
     let t6 : Bool := (decide (((Int.tmod s.1.2.2.2.2.1 (16 : Int)) : Int) = (5 : Int)))
     bif t6 then
      match ref05_Made_c11 (r0.1, s.1, (0 : Int), ([] : List UInt8), ([] : List UInt8), ([] : List UInt8), ([] : List UInt8), ([] : List UInt8), ([] : List UInt8), (0 : Int), (([] : List UInt8), (([] : List UInt8), ())), ()) with
      | none => none
      | some (.inl z7) =>
       some ((z7.1, (z7.2.1, (z7.2.2.1, (z7.2.2.2.1, (z7.2.2.2.2.1, (z7.2.2.2.2.2.1, (z7.2.2.2.2.2.2.1, ()))))))), ())
      | some (.inr z7) =>
       none
     else
      bif (decide ((r0.1 : List UInt8) = r1.1)) then
       match ref02_One (r0.1, ()) with
       | none => none
       | some r7 =>
        match ref05_Made_c11 (r0.1, s.1, (0 : Int), ([] : List UInt8), ([] : List UInt8), ([] : List UInt8), ([] : List UInt8), ([] : List UInt8), ([] : List UInt8), (0 : Int), r7.1, ()) with
        | none => none
        | some (.inl z8) =>
         some ((z8.1, (z8.2.1, (z8.2.2.1, (z8.2.2.2.1, (z8.2.2.2.2.1, (z8.2.2.2.2.2.1, (z8.2.2.2.2.2.2.1, ()))))))), ())
        | some (.inr z8) =>
         none
      else
       match ref05_Made_c11 (r0.1, s.1, (0 : Int), ([] : List UInt8), ([] : List UInt8), ([] : List UInt8), ([] : List UInt8), ([] : List UInt8), ([] : List UInt8), (0 : Int), (t2, (t3, ())), ()) with
       | none => none
       | some (.inl z7) =>
        some ((z7.1, (z7.2.1, (z7.2.2.1, (z7.2.2.2.1, (z7.2.2.2.2.1, (z7.2.2.2.2.2.1, (z7.2.2.2.2.2.2.1, ()))))))), ())
       | some (.inr z7) =>
        none
def ref05_List_b0_j0 (s : (List ((Int) × (Int) × (Int) × (Int) × (Int) × (Int) × Unit)) × (Int) × (Int) × (Bool) × (List (api_Msg)) × Unit) : Option (((List ((Int) × (Int) × (Int) × (Int) × (Int) × (Int) × Unit)) × (Int) × (Int) × (List (api_Msg)) × Unit) ⊕ (((List (api_Msg)) × Unit) ⊕ (Unit))) :=
 bif s.2.2.2.1 then
  bif (decide ((0 : Int) ≤ s.2.2.1) && decide ((s.2.2.1 : Int) < (List.length s.1 : Int))) then
   let t0 : (Int) × (Int) × (Int) × (Int) × (Int) × (Int) × Unit := (List.getD s.1 (Int.toNat s.2.2.1) ((0 : Int), ((0 : Int), ((0 : Int), ((0 : Int), ((0 : Int), ((0 : Int), ())))))))
   match ref05_Made (t0, ()) with
   | none => none
   | some r1 =>
    bif (decide ((List.length s.2.2.2.2.1 + List.length ([r1.1] : List (api_Msg))) * 112 ≤ roomMax)) then
     let t2 : List (api_Msg) := (s.2.2.2.2.1 ++ ([r1.1] : List (api_Msg)))
     some (.inl (s.1, s.2.1, (IntKind.i64.wrap (s.2.2.1 + (1 : Int))), t2, ()))
    else
     none
  else
   none
 else
  some (.inr (.inl (s.2.2.2.2.1, ())))

def ref05_List_b0 (s : (List ((Int) × (Int) × (Int) × (Int) × (Int) × (Int) × Unit)) × (Int) × (Int) × (List (api_Msg)) × Unit) : Option (((List ((Int) × (Int) × (Int) × (Int) × (Int) × (Int) × Unit)) × (Int) × (Int) × (List (api_Msg)) × Unit) ⊕ (((List (api_Msg)) × Unit) ⊕ (Unit))) :=
 let t0 : Bool := (decide ((s.2.2.1 : Int) < ((List.length s.1) : Int)))
 bif t0 then
  ref05_List_b0_j0 (s.1, s.2.1, s.2.2.1, (decide ((s.2.2.1 : Int) < s.2.1)), s.2.2.2.1, ())
 else
  ref05_List_b0_j0 (s.1, s.2.1, s.2.2.1, false, s.2.2.2.1, ())
def ref05_List_l0 (s : (List ((Int) × (Int) × (Int) × (Int) × (Int) × (Int) × Unit)) × (Int) × (Int) × (List (api_Msg)) × Unit) : Option (((List (api_Msg)) × Unit) ⊕ (Unit)) := loopO (ref05_List_b0) s
def ref05_List (s : (List ((Int) × (Int) × (Int) × (Int) × (Int) × (Int) × Unit)) × (Int) × Unit) : Option ((List (api_Msg)) × Unit) :=
 match ref05_List_l0 (s.1, s.2.1, (0 : Int), ([] : List (api_Msg)), ()) with
 | none => none
 | some (.inl z0) =>
  some (z0.1, ())
 | some (.inr z0) =>
  none
def ref05_Reads_j0 (s : (Int) × (Bool) × (api_Msg) × Unit) : Option ((List (api_Span)) × Unit) :=
 bif s.2.1 then
  match ref02_Prefix (s.2.2.1.2.2.2.2.1, ()) with
  | none => none
  | some r0 =>
   some (([r0.1] : List (api_Span)), ())
 else
  bif (decide ((s.1 : Int) = (6 : Int))) then
   some (([s.2.2.1.2.2.2.1] : List (api_Span)), ())
  else
   some (([] : List (api_Span)), ())

def ref05_Reads (s : (api_Msg) × Unit) : Option ((List (api_Span)) × Unit) :=
 bif (decide ((s.1.1 : Int) = (4 : Int))) then
  ref05_Reads_j0 (s.1.1, true, s.1, ())
 else
  ref05_Reads_j0 (s.1.1, (decide ((s.1.1 : Int) = (5 : Int))), s.1, ())
def ref05_Writes_j0 (s : (Int) × (Bool) × (api_Msg) × Unit) : Option ((List (api_Span)) × Unit) :=
 bif s.2.1 then
  match ref02_One (s.2.2.1.2.1, ()) with
  | none => none
  | some r0 =>
   some (([r0.1] : List (api_Span)), ())
 else
  bif (decide ((s.1 : Int) = (4 : Int))) then
   match ref02_Prefix (s.2.2.1.2.2.2.2.1, ()) with
   | none => none
   | some r0 =>
    match ref02_Prefix (s.2.2.1.2.2.2.2.2.1, ()) with
    | none => none
    | some r1 =>
     some (([r0.1, r1.1] : List (api_Span)), ())
  else
   bif (decide ((s.1 : Int) = (5 : Int))) then
    match ref02_Prefix (s.2.2.1.2.2.2.2.2.1, ()) with
    | none => none
    | some r0 =>
     some (([r0.1] : List (api_Span)), ())
   else
    some (([s.2.2.1.2.2.2.1] : List (api_Span)), ())

def ref05_Writes (s : (api_Msg) × Unit) : Option ((List (api_Span)) × Unit) :=
 bif (decide ((s.1.1 : Int) = (1 : Int))) then
  ref05_Writes_j0 (s.1.1, true, s.1, ())
 else
  ref05_Writes_j0 (s.1.1, (decide ((s.1.1 : Int) = (2 : Int))), s.1, ())
def ref02_Covers (s : (api_Span) × (api_Span) × Unit) : Option ((Bool) × Unit) :=
 match ref02_Empty (s.2.1, ()) with
 | none => none
 | some r0 =>
  bif (!r0.1) then
   match ref02_Empty (s.1, ()) with
   | none => none
   | some r1 =>
    bif (!r1.1) then
     let t2 : Bool := (Op.bytesLess s.1.1 s.2.1.1 || decide ((s.1.1 : List UInt8) = s.2.1.1))
     bif t2 then
      match ref02_Less (s.1.2.1, s.2.1.2.1, ()) with
      | none => none
      | some r3 =>
       some ((!r3.1), ())
     else
      some (false, ())
    else
     some (false, ())
  else
   some (true, ())
def ref08_Lies_b0 (s : (Int) × (api_Span) × (List (api_Span)) × Unit) : Option (((Int) × (api_Span) × (List (api_Span)) × Unit) ⊕ (((Bool) × Unit) ⊕ (Unit))) :=
 let t0 : Bool := (decide ((s.1 : Int) < ((List.length s.2.2.1) : Int)))
 bif t0 then
  bif (decide ((0 : Int) ≤ s.1) && decide ((s.1 : Int) < (List.length s.2.2.1 : Int))) then
   let t1 : api_Span := (List.getD s.2.2.1 (Int.toNat s.1) (([] : List UInt8), (([] : List UInt8), ())))
   match ref02_Covers (s.2.1, t1, ()) with
   | none => none
   | some r2 =>
    bif (!r2.1) then
     some (.inr (.inl (false, ())))
    else
     some (.inl ((IntKind.i64.wrap (s.1 + (1 : Int))), s.2.1, s.2.2.1, ()))
  else
   none
 else
  some (.inr (.inr (())))
def ref08_Lies_l0 (s : (Int) × (api_Span) × (List (api_Span)) × Unit) : Option (((Bool) × Unit) ⊕ (Unit)) := loopO (ref08_Lies_b0) s
def ref08_Lies (s : (api_Msg) × (api_Span) × Unit) : Option ((Bool) × Unit) :=
 match ref05_Reads (s.1, ()) with
 | none => none
 | some r0 =>
  bif (decide ((List.length ([] : List (api_Span)) + List.length r0.1) * 32 ≤ roomMax)) then
   let t1 : List (api_Span) := (([] : List (api_Span)) ++ r0.1)
   match ref05_Writes (s.1, ()) with
   | none => none
   | some r2 =>
    bif (decide ((List.length t1 + List.length r2.1) * 32 ≤ roomMax)) then
     match ref08_Lies_l0 ((0 : Int), s.2.1, (t1 ++ r2.1), ()) with
     | none => none
     | some (.inl z3) =>
      some (z3.1, ())
     | some (.inr z3) =>
      some (true, ())
    else
     none
  else
   none
def ref12_fitting_b0_j0 (s : (Int) × (Int) × (Bool) × (api_Span) × (List (api_Msg)) × (List (api_Msg)) × Unit) : Option (((Int) × (Int) × (api_Span) × (List (api_Msg)) × (List (api_Msg)) × Unit) ⊕ (((List (api_Msg)) × Unit) ⊕ (Unit))) :=
 bif s.2.2.1 then
  bif (decide ((0 : Int) ≤ s.2.1) && decide ((s.2.1 : Int) < (List.length s.2.2.2.2.2.1 : Int))) then
   let t0 : api_Msg := (List.getD s.2.2.2.2.2.1 (Int.toNat s.2.1) ((0 : Int), (([] : List UInt8), (([] : List UInt8), ((([] : List UInt8), (([] : List UInt8), ())), (([] : List UInt8), (([] : List UInt8), ((0 : Int), ()))))))))
   match ref08_Lies (t0, s.2.2.2.1, ()) with
   | none => none
   | some r1 =>
    bif r1.1 then
     bif (decide ((0 : Int) ≤ s.2.1) && decide ((s.2.1 : Int) < (List.length s.2.2.2.2.2.1 : Int))) then
      let t2 : api_Msg := (List.getD s.2.2.2.2.2.1 (Int.toNat s.2.1) ((0 : Int), (([] : List UInt8), (([] : List UInt8), ((([] : List UInt8), (([] : List UInt8), ())), (([] : List UInt8), (([] : List UInt8), ((0 : Int), ()))))))))
      bif (decide ((List.length s.2.2.2.2.1 + List.length ([t2] : List (api_Msg))) * 112 ≤ roomMax)) then
       let t3 : List (api_Msg) := (s.2.2.2.2.1 ++ ([t2] : List (api_Msg)))
       some (.inl (s.1, (IntKind.i64.wrap (s.2.1 + (1 : Int))), s.2.2.2.1, t3, s.2.2.2.2.2.1, ()))
      else
       none
     else
      none
    else
     some (.inl (s.1, (IntKind.i64.wrap (s.2.1 + (1 : Int))), s.2.2.2.1, s.2.2.2.2.1, s.2.2.2.2.2.1, ()))
  else
   none
 else
  some (.inr (.inl (s.2.2.2.2.1, ())))

def ref12_fitting_b0 (s : (Int) × (Int) × (api_Span) × (List (api_Msg)) × (List (api_Msg)) × Unit) : Option (((Int) × (Int) × (api_Span) × (List (api_Msg)) × (List (api_Msg)) × Unit) ⊕ (((List (api_Msg)) × Unit) ⊕ (Unit))) :=
 let t0 : Bool := (decide ((s.2.1 : Int) < ((List.length s.2.2.2.2.1) : Int)))
 bif t0 then
  let t1 : Bool := (decide ((((List.length s.2.2.2.1) : Int) : Int) < s.1))
  ref12_fitting_b0_j0 (s.1, s.2.1, t1, s.2.2.1, s.2.2.2.1, s.2.2.2.2.1, ())
 else
  ref12_fitting_b0_j0 (s.1, s.2.1, false, s.2.2.1, s.2.2.2.1, s.2.2.2.2.1, ())
def ref12_fitting_l0 (s : (Int) × (Int) × (api_Span) × (List (api_Msg)) × (List (api_Msg)) × Unit) : Option (((List (api_Msg)) × Unit) ⊕ (Unit)) := loopO (ref12_fitting_b0) s
def ref12_fitting (s : (List ((Int) × (Int) × (Int) × (Int) × (Int) × (Int) × Unit)) × (api_Span) × (Int) × Unit) : Option ((List (api_Msg)) × Unit) :=
 match ref05_List (s.1, (IntKind.i64.wrap ((3 : Int) * s.2.2.1)), ()) with
 | none => none
 | some r0 =>
  match ref12_fitting_l0 (s.2.2.1, (0 : Int), s.2.1, ([] : List (api_Msg)), r0.1, ()) with
  | none => none
  | some (.inl z1) =>
   some (z1.1, ())
  | some (.inr z1) =>
   none
def ref12_build_b0_j0 (ref12_build_r : ((api_Pool) × (List (api_Pair)) × (api_Span) × (List (List (List UInt8))) × (ref12_Raw) × Unit) → Option ((ref12_built) × Unit)) (s : (List (api_Pair)) × (List (List (List UInt8))) × (Int) × (List UInt8) × (Bool) × (api_Pool) × (api_Span) × (ref12_Raw) × (List (api_Slot)) × (Int) × (List (List UInt8)) × Unit) : Option (((List (api_Pair)) × (List (List (List UInt8))) × (Int) × (api_Pool) × (api_Span) × (ref12_Raw) × (List (api_Slot)) × (Int) × (List (List UInt8)) × Unit) ⊕ (((List (api_Pair)) × (List (List (List UInt8))) × (api_Pool) × (api_Span) × (ref12_Raw) × (List (api_Slot)) × (Int) × (List (List UInt8)) × Unit) ⊕ (Unit))) :=
 bif s.2.2.2.2.1 then
  bif (decide ((List.length s.2.2.2.2.2.2.2.2.2.2.1 + List.length ([s.2.2.2.1] : List (List UInt8))) * 16 ≤ roomMax)) then
   let t0 : List (List UInt8) := (s.2.2.2.2.2.2.2.2.2.2.1 ++ ([s.2.2.2.1] : List (List UInt8)))
   some (.inl (s.1, s.2.1, (IntKind.i64.wrap (s.2.2.1 + (1 : Int))), s.2.2.2.2.2.1, s.2.2.2.2.2.2.1, s.2.2.2.2.2.2.2.1, s.2.2.2.2.2.2.2.2.1, s.2.2.2.2.2.2.2.2.2.1, t0, ()))
  else
   none
 else
  some (.inl (s.1, s.2.1, (IntKind.i64.wrap (s.2.2.1 + (1 : Int))), s.2.2.2.2.2.1, s.2.2.2.2.2.2.1, s.2.2.2.2.2.2.2.1, s.2.2.2.2.2.2.2.2.1, s.2.2.2.2.2.2.2.2.2.1, s.2.2.2.2.2.2.2.2.2.2.1, ()))

def ref12_build_b0 (ref12_build_r : ((api_Pool) × (List (api_Pair)) × (api_Span) × (List (List (List UInt8))) × (ref12_Raw) × Unit) → Option ((ref12_built) × Unit)) (s : (List (api_Pair)) × (List (List (List UInt8))) × (Int) × (api_Pool) × (api_Span) × (ref12_Raw) × (List (api_Slot)) × (Int) × (List (List UInt8)) × Unit) : Option (((List (api_Pair)) × (List (List (List UInt8))) × (Int) × (api_Pool) × (api_Span) × (ref12_Raw) × (List (api_Slot)) × (Int) × (List (List UInt8)) × Unit) ⊕ (((List (api_Pair)) × (List (List (List UInt8))) × (api_Pool) × (api_Span) × (ref12_Raw) × (List (api_Slot)) × (Int) × (List (List UInt8)) × Unit) ⊕ (Unit))) :=
 bif (decide (((0 : Int) : Int) < (List.length s.2.1 : Int))) then
  let t0 : List (List UInt8) := (List.getD s.2.1 0 ([] : List (List UInt8)))
  let t1 : Bool := (decide ((s.2.2.1 : Int) < ((List.length t0) : Int)))
  bif t1 then
   bif (decide (((0 : Int) : Int) < (List.length s.2.1 : Int))) then
    let t2 : List (List UInt8) := (List.getD s.2.1 0 ([] : List (List UInt8)))
    bif (decide ((0 : Int) ≤ s.2.2.1) && decide ((s.2.2.1 : Int) < (List.length t2 : Int))) then
     let t3 : List UInt8 := (List.getD t2 (Int.toNat s.2.2.1) ([] : List UInt8))
     let t4 : Bool := (!(Op.bytesLess t3 s.2.2.2.2.1.1 || decide ((t3 : List UInt8) = s.2.2.2.2.1.1)))
     bif t4 then
      match ref04_Has (s.2.2.2.2.1, t3, ()) with
      | none => none
      | some r5 =>
       ref12_build_b0_j0 ref12_build_r (s.1, s.2.1, s.2.2.1, t3, r5.1, s.2.2.2.1, s.2.2.2.2.1, s.2.2.2.2.2.1, s.2.2.2.2.2.2.1, s.2.2.2.2.2.2.2.1, s.2.2.2.2.2.2.2.2.1, ())
     else
      ref12_build_b0_j0 ref12_build_r (s.1, s.2.1, s.2.2.1, t3, false, s.2.2.2.1, s.2.2.2.2.1, s.2.2.2.2.2.1, s.2.2.2.2.2.2.1, s.2.2.2.2.2.2.2.1, s.2.2.2.2.2.2.2.2.1, ())
    else
     none
   else
    none
  else
   some (.inr (.inl (s.1, s.2.1, s.2.2.2.1, s.2.2.2.2.1, s.2.2.2.2.2.1, s.2.2.2.2.2.2.1, s.2.2.2.2.2.2.2.1, s.2.2.2.2.2.2.2.2.1, ())))
 else
  none
def ref12_build_l0 (ref12_build_r : ((api_Pool) × (List (api_Pair)) × (api_Span) × (List (List (List UInt8))) × (ref12_Raw) × Unit) → Option ((ref12_built) × Unit)) (s : (List (api_Pair)) × (List (List (List UInt8))) × (Int) × (api_Pool) × (api_Span) × (ref12_Raw) × (List (api_Slot)) × (Int) × (List (List UInt8)) × Unit) : Option (((List (api_Pair)) × (List (List (List UInt8))) × (api_Pool) × (api_Span) × (ref12_Raw) × (List (api_Slot)) × (Int) × (List (List UInt8)) × Unit) ⊕ (Unit)) := loopO (ref12_build_b0 ref12_build_r) s
def ref12_build_b1 (ref12_build_r : ((api_Pool) × (List (api_Pair)) × (api_Span) × (List (List (List UInt8))) × (ref12_Raw) × Unit) → Option ((ref12_built) × Unit)) (s : (List (api_Pair)) × (List (List (List UInt8))) × (Int) × (api_Pool) × (api_Span) × (ref12_Raw) × (List (api_Slot)) × (Int) × (List (api_Pair)) × (List (api_Msg)) × (List (api_Span)) × (List (List UInt8)) × (List (Int)) × (List (api_Sum)) × Unit) : Option (((List (api_Pair)) × (List (List (List UInt8))) × (Int) × (api_Pool) × (api_Span) × (ref12_Raw) × (List (api_Slot)) × (Int) × (List (api_Pair)) × (List (api_Msg)) × (List (api_Span)) × (List (List UInt8)) × (List (Int)) × (List (api_Sum)) × Unit) ⊕ (((api_Pool) × (api_Span) × (ref12_Raw) × (List (api_Slot)) × (Int) × (List (api_Pair)) × (List (api_Msg)) × (List (List UInt8)) × (List (Int)) × (List (api_Sum)) × Unit) ⊕ (Unit))) :=
 let t0 : Int := ((List.length s.2.2.2.2.2.2.2.2.2.2.1) : Int)
 bif (decide ((s.2.2.1 : Int) < t0)) then
  bif (decide ((0 : Int) ≤ s.2.2.1) && decide ((s.2.2.1 : Int) < (List.length s.2.2.2.2.2.2.2.2.2.2.1 : Int))) then
   let t1 : api_Span := (List.getD s.2.2.2.2.2.2.2.2.2.2.1 (Int.toNat s.2.2.1) (([] : List UInt8), (([] : List UInt8), ())))
   bif (decide (((1 : Int) : Int) ≤ (List.length s.2.1 : Int)) && decide (((List.length s.2.1 : Int) : Int) ≤ (List.length s.2.1 : Int))) then
    let t2 : List (List (List UInt8)) := (List.drop (Int.toNat (1 : Int)) (List.take (Int.toNat (List.length s.2.1 : Int)) s.2.1))
    match ref12_build_r (s.2.2.2.1, s.1, t1, t2, s.2.2.2.2.2.1, ()) with
    | none => none
    | some r3 =>
     match ref11_Get (r3.1.1, r3.1.2.1, ()) with
     | none => none
     | some r4 =>
      bif (decide ((List.length s.2.2.2.2.2.2.2.2.2.2.2.2.1 + List.length ([r3.1.2.1] : List (Int))) * 8 ≤ roomMax)) then
       let t5 : List (Int) := (s.2.2.2.2.2.2.2.2.2.2.2.2.1 ++ ([r3.1.2.1] : List (Int)))
       match ref10_Sum (r4.1, ()) with
       | none => none
       | some r6 =>
        bif (decide ((List.length s.2.2.2.2.2.2.2.2.2.2.2.2.2.1 + List.length ([r6.1] : List (api_Sum))) * 32 ≤ roomMax)) then
         let t7 : List (api_Sum) := (s.2.2.2.2.2.2.2.2.2.2.2.2.2.1 ++ ([r6.1] : List (api_Sum)))
         some (.inl (s.1, s.2.1, (IntKind.i64.wrap (s.2.2.1 + (1 : Int))), r3.1.1, s.2.2.2.2.1, s.2.2.2.2.2.1, s.2.2.2.2.2.2.1, s.2.2.2.2.2.2.2.1, s.2.2.2.2.2.2.2.2.1, s.2.2.2.2.2.2.2.2.2.1, s.2.2.2.2.2.2.2.2.2.2.1, s.2.2.2.2.2.2.2.2.2.2.2.1, t5, t7, ()))
        else
         none
      else
       none
   else
    none
  else
   none
 else
  some (.inr (.inl (s.2.2.2.1, s.2.2.2.2.1, s.2.2.2.2.2.1, s.2.2.2.2.2.2.1, s.2.2.2.2.2.2.2.1, s.2.2.2.2.2.2.2.2.1, s.2.2.2.2.2.2.2.2.2.1, s.2.2.2.2.2.2.2.2.2.2.2.1, s.2.2.2.2.2.2.2.2.2.2.2.2.1, s.2.2.2.2.2.2.2.2.2.2.2.2.2.1, ())))
def ref12_build_l1 (ref12_build_r : ((api_Pool) × (List (api_Pair)) × (api_Span) × (List (List (List UInt8))) × (ref12_Raw) × Unit) → Option ((ref12_built) × Unit)) (s : (List (api_Pair)) × (List (List (List UInt8))) × (Int) × (api_Pool) × (api_Span) × (ref12_Raw) × (List (api_Slot)) × (Int) × (List (api_Pair)) × (List (api_Msg)) × (List (api_Span)) × (List (List UInt8)) × (List (Int)) × (List (api_Sum)) × Unit) : Option (((api_Pool) × (api_Span) × (ref12_Raw) × (List (api_Slot)) × (Int) × (List (api_Pair)) × (List (api_Msg)) × (List (List UInt8)) × (List (Int)) × (List (api_Sum)) × Unit) ⊕ (Unit)) := loopO (ref12_build_b1 ref12_build_r) s
def ref12_build_b2 (ref12_build_r : ((api_Pool) × (List (api_Pair)) × (api_Span) × (List (List (List UInt8))) × (ref12_Raw) × Unit) → Option ((ref12_built) × Unit)) (s : (Int) × (List (api_Slot)) × (Int) × (List (api_Pair)) × (ref11_Added) × (api_Pool) × (List (List UInt8)) × (List (Int)) × (List (api_Sum)) × (List (api_Msg)) × Unit) : Option (((Int) × (List (api_Slot)) × (Int) × (List (api_Pair)) × (ref11_Added) × (api_Pool) × (List (List UInt8)) × (List (Int)) × (List (api_Sum)) × (List (api_Msg)) × Unit) ⊕ (((List (api_Slot)) × (Int) × (ref11_Added) × (api_Pool) × Unit) ⊕ (Unit))) :=
 let t0 : Bool := (decide ((s.1 : Int) < ((List.length s.2.2.2.2.2.2.2.1) : Int)))
 bif t0 then
  bif (decide ((0 : Int) ≤ s.1) && decide ((s.1 : Int) < (List.length s.2.2.2.2.2.2.2.1 : Int))) then
   let t1 : Int := (List.getD s.2.2.2.2.2.2.2.1 (Int.toNat s.1) (0 : Int))
   match ref11_Drop (s.2.2.2.2.2.1, t1, ()) with
   | none => none
   | some r2 =>
    some (.inl ((IntKind.i64.wrap (s.1 + (1 : Int))), s.2.1, s.2.2.1, s.2.2.2.1, s.2.2.2.2.1, r2.1, s.2.2.2.2.2.2.1, s.2.2.2.2.2.2.2.1, s.2.2.2.2.2.2.2.2.1, s.2.2.2.2.2.2.2.2.2.1, ()))
  else
   none
 else
  some (.inr (.inl (s.2.1, s.2.2.1, s.2.2.2.2.1, s.2.2.2.2.2.1, ())))
def ref12_build_l2 (ref12_build_r : ((api_Pool) × (List (api_Pair)) × (api_Span) × (List (List (List UInt8))) × (ref12_Raw) × Unit) → Option ((ref12_built) × Unit)) (s : (Int) × (List (api_Slot)) × (Int) × (List (api_Pair)) × (ref11_Added) × (api_Pool) × (List (List UInt8)) × (List (Int)) × (List (api_Sum)) × (List (api_Msg)) × Unit) : Option (((List (api_Slot)) × (Int) × (ref11_Added) × (api_Pool) × Unit) ⊕ (Unit)) := loopO (ref12_build_b2 ref12_build_r) s
def ref12_build_j2 (ref12_build_r : ((api_Pool) × (List (api_Pair)) × (api_Span) × (List (List (List UInt8))) × (ref12_Raw) × Unit) → Option ((ref12_built) × Unit)) (s : (api_Pool) × (List (api_Slot)) × (Int) × (List (api_Pair)) × (List (List UInt8)) × (List (Int)) × (List (api_Sum)) × (List (api_Msg)) × Unit) : Option ((ref12_built) × Unit) :=
 match ref11_Add (s.1, (s.2.2.2.1, (s.2.2.2.2.1, (s.2.2.2.2.2.1, (s.2.2.2.2.2.2.1, (s.2.2.2.2.2.2.2.1, ()))))), ()) with
 | none => none
 | some r0 =>
  match ref12_build_l2 ref12_build_r ((0 : Int), s.2.1, s.2.2.1, s.2.2.2.1, r0.1, r0.1.1, s.2.2.2.2.1, s.2.2.2.2.2.1, s.2.2.2.2.2.2.1, s.2.2.2.2.2.2.2.1, ()) with
  | none => none
  | some (.inl z1) =>
   some ((z1.2.2.2.1, (z1.2.2.1.2.1, ())), ())
  | some (.inr z1) =>
   none
def ref12_build_j1 (ref12_build_r : ((api_Pool) × (List (api_Pair)) × (api_Span) × (List (List (List UInt8))) × (ref12_Raw) × Unit) → Option ((ref12_built) × Unit)) (s : (Int) × (api_Pool) × (api_Span) × (ref12_Raw) × (List (api_Slot)) × (Int) × (List (api_Pair)) × (List (api_Msg)) × (List (List UInt8)) × (List (Int)) × (List (api_Sum)) × Unit) : Option ((ref12_built) × Unit) :=
 bif (decide ((0 : Int) ≤ s.1) && decide ((s.1 : Int) < (4 : Int))) then
  bif (Nat.beq (Int.toNat s.1) 3) then
   match ref12_fitting (s.2.2.2.1.2.1.2.2.2.1, s.2.2.1, (5 : Int), ()) with
   | none => none
   | some r0 =>
    ref12_build_j2 ref12_build_r (s.2.1, s.2.2.2.2.1, s.2.2.2.2.2.1, s.2.2.2.2.2.2.1, s.2.2.2.2.2.2.2.2.1, s.2.2.2.2.2.2.2.2.2.1, s.2.2.2.2.2.2.2.2.2.2.1, r0.1, ())
  else
   bif (Nat.beq (Int.toNat s.1) 2) then
    match ref12_fitting (s.2.2.2.1.2.1.2.2.1, s.2.2.1, (5 : Int), ()) with
    | none => none
    | some r0 =>
     ref12_build_j2 ref12_build_r (s.2.1, s.2.2.2.2.1, s.2.2.2.2.2.1, s.2.2.2.2.2.2.1, s.2.2.2.2.2.2.2.2.1, s.2.2.2.2.2.2.2.2.2.1, s.2.2.2.2.2.2.2.2.2.2.1, r0.1, ())
   else
    bif (Nat.beq (Int.toNat s.1) 1) then
     match ref12_fitting (s.2.2.2.1.2.1.2.1, s.2.2.1, (5 : Int), ()) with
     | none => none
     | some r0 =>
      ref12_build_j2 ref12_build_r (s.2.1, s.2.2.2.2.1, s.2.2.2.2.2.1, s.2.2.2.2.2.2.1, s.2.2.2.2.2.2.2.2.1, s.2.2.2.2.2.2.2.2.2.1, s.2.2.2.2.2.2.2.2.2.2.1, r0.1, ())
    else
     bif (Nat.beq (Int.toNat s.1) 0) then
      match ref12_fitting (s.2.2.2.1.2.1.1, s.2.2.1, (5 : Int), ()) with
      | none => none
      | some r0 =>
       ref12_build_j2 ref12_build_r (s.2.1, s.2.2.2.2.1, s.2.2.2.2.2.1, s.2.2.2.2.2.2.1, s.2.2.2.2.2.2.2.2.1, s.2.2.2.2.2.2.2.2.2.1, s.2.2.2.2.2.2.2.2.2.2.1, r0.1, ())
     else
      none
 else
  none
def ref12_build_j0 (ref12_build_r : ((api_Pool) × (List (api_Pair)) × (api_Span) × (List (List (List UInt8))) × (ref12_Raw) × Unit) → Option ((ref12_built) × Unit)) (s : (List (api_Pair)) × (List (List (List UInt8))) × (api_Pool) × (api_Span) × (ref12_Raw) × (List (api_Slot)) × (Int) × (List (List UInt8)) × Unit) : Option ((ref12_built) × Unit) :=
 let t0 : Bool := (decide ((((List.length s.2.1) : Int) : Int) = (0 : Int)))
 bif t0 then
  match ref04_Range (s.1, s.2.2.2.1, ()) with
  | none => none
  | some r1 =>
   match ref11_Add (s.2.2.1, (r1.1, (s.2.2.2.2.2.2.2.1, (([] : List (Int)), (([] : List (api_Sum)), (([] : List (api_Msg)), ()))))), ()) with
   | none => none
   | some r2 =>
    some ((r2.1.1, (r2.1.2.1, ())), ())
 else
  let t1 : Int := (IntKind.i64.wrap (((List.length s.2.2.2.2.2.2.2.1) : Int) + (1 : Int)))
  bif (decide ((0 : Int) ≤ t1) && decide ((t1 : Int) ≤ t1) && decide (t1 * (8 : Int) ≤ (roomMax : Int))) then
   match ref10_Spans ((([] : List (api_Pair)), (s.2.2.2.2.2.2.2.1, ((List.replicate (Int.toNat t1) (0 : Int)), (([] : List (api_Sum)), (([] : List (api_Msg)), ()))))), s.2.2.2.1, ()) with
   | none => none
   | some r2 =>
    match ref12_build_l1 ref12_build_r (s.1, s.2.1, (0 : Int), s.2.2.1, s.2.2.2.1, s.2.2.2.2.1, s.2.2.2.2.2.1, s.2.2.2.2.2.2.1, ([] : List (api_Pair)), ([] : List (api_Msg)), r2.1, s.2.2.2.2.2.2.2.1, ([] : List (Int)), ([] : List (api_Sum)), ()) with
    | none => none
    | some (.inl z3) =>
     let t4 : Bool := (!(Ty.eqb tapi_Span z3.2.1 (([] : List UInt8), (([] : List UInt8), ()))))
     bif t4 then
      let t5 : Int := (Int.tmod ((List.length z3.2.1.1) : Int) (3 : Int))
      ref12_build_j1 ref12_build_r ((IntKind.i64.wrap ((1 : Int) + t5)), z3.1, z3.2.1, z3.2.2.1, z3.2.2.2.1, z3.2.2.2.2.1, z3.2.2.2.2.2.1, z3.2.2.2.2.2.2.1, z3.2.2.2.2.2.2.2.1, z3.2.2.2.2.2.2.2.2.1, z3.2.2.2.2.2.2.2.2.2.1, ())
     else
      ref12_build_j1 ref12_build_r ((0 : Int), z3.1, z3.2.1, z3.2.2.1, z3.2.2.2.1, z3.2.2.2.2.1, z3.2.2.2.2.2.1, z3.2.2.2.2.2.2.1, z3.2.2.2.2.2.2.2.1, z3.2.2.2.2.2.2.2.2.1, z3.2.2.2.2.2.2.2.2.2.1, ())
    | some (.inr z3) =>
     none
  else
   none

def ref12_build_step (ref12_build_r : ((api_Pool) × (List (api_Pair)) × (api_Span) × (List (List (List UInt8))) × (ref12_Raw) × Unit) → Option ((ref12_built) × Unit)) (s : (api_Pool) × (List (api_Pair)) × (api_Span) × (List (List (List UInt8))) × (ref12_Raw) × Unit) : Option ((ref12_built) × Unit) :=
 let t0 : Bool := (decide ((((List.length s.2.2.2.1) : Int) : Int) > (0 : Int)))
 bif t0 then
  match ref12_build_l0 ref12_build_r (s.2.1, s.2.2.2.1, (0 : Int), s.1, s.2.2.1, s.2.2.2.2.1, ([] : List (api_Slot)), (0 : Int), ([] : List (List UInt8)), ()) with
  | none => none
  | some (.inl z1) =>
   ref12_build_j0 ref12_build_r (z1.1, z1.2.1, z1.2.2.1, z1.2.2.2.1, z1.2.2.2.2.1, z1.2.2.2.2.2.1, z1.2.2.2.2.2.2.1, z1.2.2.2.2.2.2.2.1, ())
  | some (.inr z1) =>
   none
 else
  ref12_build_j0 ref12_build_r (s.2.1, s.2.2.2.1, s.1, s.2.2.1, s.2.2.2.2.1, ([] : List (api_Slot)), (0 : Int), ([] : List (List UInt8)), ())
def ref12_build_fuel : Nat → ((api_Pool) × (List (api_Pair)) × (api_Span) × (List (List (List UInt8))) × (ref12_Raw) × Unit) → Option ((ref12_built) × Unit)
 | 0, _ => none
 | n + 1, s => ref12_build_step (ref12_build_fuel n) s
def ref12_build (s : (api_Pool) × (List (api_Pair)) × (api_Span) × (List (List (List UInt8))) × (ref12_Raw) × Unit) : Option ((ref12_built) × Unit) := ref12_build_fuel huge s
def ref12_Made (s : (ref12_Raw) × Unit) : Option ((api_Tree) × Unit) :=
 match ref04_Made (s.1.1, ()) with
 | none => none
 | some r0 =>
  let t1 : Int := (IntKind.i64.wrap (Int.tmod s.1.2.2.1 (4 : Int)))
  bif (decide ((0 : Int) ≤ t1) && decide ((t1 : Int) < (List.length ([([] : List (List (List UInt8))), ([([([97, 47, 98, 47] : List UInt8), ([98, 47] : List UInt8), ([99, 47] : List UInt8)] : List (List UInt8))] : List (List (List UInt8))), ([([([98, 47] : List UInt8)] : List (List UInt8)), ([([97, 47, 2] : List UInt8), ([97, 47, 98, 47] : List UInt8), ([99, 47] : List UInt8)] : List (List UInt8))] : List (List (List UInt8))), ([([([97, 47, 98, 47] : List UInt8), ([98, 47] : List UInt8)] : List (List UInt8)), ([([97, 47, 98, 47, 2] : List UInt8), ([99, 47] : List UInt8), ([100, 47] : List UInt8)] : List (List UInt8))] : List (List (List UInt8)))] : List (List (List (List UInt8)))) : Int))) then
   let t2 : List (List (List UInt8)) := (List.getD ([([] : List (List (List UInt8))), ([([([97, 47, 98, 47] : List UInt8), ([98, 47] : List UInt8), ([99, 47] : List UInt8)] : List (List UInt8))] : List (List (List UInt8))), ([([([98, 47] : List UInt8)] : List (List UInt8)), ([([97, 47, 2] : List UInt8), ([97, 47, 98, 47] : List UInt8), ([99, 47] : List UInt8)] : List (List UInt8))] : List (List (List UInt8))), ([([([97, 47, 98, 47] : List UInt8), ([98, 47] : List UInt8)] : List (List UInt8)), ([([97, 47, 98, 47, 2] : List UInt8), ([99, 47] : List UInt8), ([100, 47] : List UInt8)] : List (List UInt8))] : List (List (List UInt8)))] : List (List (List (List UInt8)))) (Int.toNat t1) ([] : List (List (List UInt8))))
   match ref12_build ((([] : List (api_Slot)), ()), r0.1, (([] : List UInt8), (([] : List UInt8), ())), t2, s.1, ()) with
   | none => none
   | some r3 =>
    let t4 : Int := (IntKind.u8.wrap (Int.tdiv s.1.2.2.1 (4 : Int)))
    let t5 : Int := (IntKind.i64.wrap (Int.tmod t4 (4 : Int)))
    let t6 : Int := (IntKind.u8.wrap (Int.tdiv s.1.2.2.1 (16 : Int)))
    let t7 : Int := (IntKind.i64.wrap (Int.tmod t6 (3 : Int)))
    let t8 : Int := (IntKind.u8.wrap (Int.tdiv s.1.2.2.1 (64 : Int)))
    let t9 : Int := (IntKind.i64.wrap ((1 : Int) + (IntKind.i64.wrap t8)))
    some ((r3.1.1, (r3.1.2.1, (((IntKind.i64.wrap ((2 : Int) + t5)), ((IntKind.i64.wrap ((2 : Int) + t7)), (t9, ()))), ()))), ())
  else
   none
def tree_Height_b0 (s : (Int) × (api_Tree) × (api_Node) × Unit) : Option (((Int) × (api_Tree) × (api_Node) × Unit) ⊕ (((Int) × Unit) ⊕ (Unit))) :=
 match tree_leaf (s.2.2.1, ()) with
 | none => none
 | some r0 =>
  bif (!r0.1) then
   bif (decide (((0 : Int) : Int) < (List.length s.2.2.1.2.2.1 : Int))) then
    match pool_Get (s.2.1.1, (List.getD s.2.2.1.2.2.1 0 (0 : Int)), ()) with
    | none => none
    | some r1 =>
     some (.inl ((IntKind.i64.wrap (s.1 + (1 : Int))), s.2.1, r1.1, ()))
   else
    none
  else
   some (.inr (.inl (s.1, ())))
def tree_Height_l0 (s : (Int) × (api_Tree) × (api_Node) × Unit) : Option (((Int) × Unit) ⊕ (Unit)) := loopO (tree_Height_b0) s
def tree_Height (s : (api_Tree) × Unit) : Option ((Int) × Unit) :=
 match pool_Get (s.1.1, s.1.2.1, ()) with
 | none => none
 | some r0 =>
  match tree_Height_l0 ((1 : Int), s.1, r0.1, ()) with
  | none => none
  | some (.inl z1) =>
   some (z1.1, ())
  | some (.inr z1) =>
   none
def law30_CostReads (s : (ref12_Raw) × (Int) × Unit) : Option ((Bool) × Unit) :=
 match law30_sanity (()) with
 | none => none
 | some r0 =>
  match ref12_Made (s.1, ()) with
  | none => none
  | some r1 =>
   match ref04_Key (s.2.1, ()) with
   | none => none
   | some r2 =>
    match cost_Reads (r1.1, r2.1, ()) with
    | none => none
    | some r3 =>
     match tree_Get (r1.1, r2.1, ()) with
     | none => none
     | some r4 =>
      bif r0.1 then
       bif (decide ((r3.2.1 : Int) = (0 : Int))) then
        let t5 : Bool := (decide ((r4.2.2.2.1 : Int) = (0 : Int)))
        bif t5 then
         bif (decide ((r3.1 : Int) = r4.2.2.1)) then
          bif (decide ((r3.1 : Int) ≥ (1 : Int))) then
           match tree_Height (r1.1, ()) with
           | none => none
           | some r6 =>
            some ((decide ((r3.1 : Int) ≤ r6.1)), ())
          else
           some (false, ())
         else
          some (false, ())
        else
         some (false, ())
       else
        some (false, ())
      else
       some (false, ())


end D
