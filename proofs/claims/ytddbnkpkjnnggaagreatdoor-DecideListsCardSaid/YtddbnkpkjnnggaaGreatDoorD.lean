/- Plain functions, by program. -/
import Derived.Test.YtddbnkpkjnnggaaGreatDoorXD
set_option linter.unusedVariables false
open Go Go.X
namespace D
abbrev api_Use : Type := (Int) × (Int) × Unit
abbrev runtime_errorAddressString : Type := (List UInt8) × (Int) × Unit
abbrev api_Shape : Type := (Int) × (Int) × (Int) × Unit
abbrev quota_amount : Type := (api_Use) × Unit
abbrev ref22_Decided : Type := (Bool) × (Int) × (Int) × Unit
abbrev api_Span : Type := (List UInt8) × (List UInt8) × Unit
abbrev api_Pair : Type := (List UInt8) × (List UInt8) × (Int) × Unit
abbrev api_Quota : Type := (List UInt8) × (api_Use) × Unit
abbrev api_Place : Type := (List UInt8) × (Int) × (Int) × (List UInt8) × Unit
abbrev api_Hold : Type := (Int) × (List UInt8) × (api_Use) × Unit
abbrev api_Sum : Type := (api_Use) × (api_Use) × Unit
abbrev bound_bounds : Type := (api_Sum) × Unit
abbrev ref21_Bounded : Type := (api_Sum) × (Int) × Unit
abbrev api_Msg : Type := (Int) × (List UInt8) × (List UInt8) × (api_Span) × (List UInt8) × (List UInt8) × (Int) × Unit
abbrev api_Node : Type := (List (api_Pair)) × (List (List UInt8)) × (List (Int)) × (List (api_Sum)) × (List (api_Msg)) × Unit
abbrev api_Slot : Type := (Bool) × (Bool) × (Int) × (api_Node) × Unit
abbrev api_Pool : Type := (List (api_Slot)) × Unit
abbrev bound_reader : Type := (api_Pool) × Unit
abbrev tree_scanner : Type := (api_Pool) × (Int) × Unit
abbrev ref11_Added : Type := (api_Pool) × (Int) × (Int) × Unit
abbrev api_Tree : Type := (api_Pool) × (Int) × (api_Shape) × Unit
abbrev law22_given : Type := (api_Tree) × (List (api_Quota)) × (List (api_Hold)) × (List (api_Msg)) × Unit
@[reducible] def tapi_Use : Ty := (.pair (.int .i64) (.pair (.int .i64) .unit))
@[reducible] def tapi_Shape : Ty := (.pair (.int .i64) tapi_Use)
@[reducible] def tquota_amount : Ty := (.pair tapi_Use .unit)
@[reducible] def tref22_Decided : Ty := (.pair .bool tapi_Use)
@[reducible] def tapi_Span : Ty := (.pair .str (.pair .str .unit))
@[reducible] def tapi_Pair : Ty := (.pair .str (.pair .str (.pair (.int .i64) .unit)))
@[reducible] def tapi_Quota : Ty := (.pair .str tquota_amount)
@[reducible] def tapi_Place : Ty := (.pair .str (.pair (.int .i64) (.pair (.int .i64) (.pair .str .unit))))
@[reducible] def tapi_Hold : Ty := (.pair (.int .i64) tapi_Quota)
@[reducible] def tapi_Sum : Ty := (.pair tapi_Use tquota_amount)
@[reducible] def tbound_bounds : Ty := (.pair tapi_Sum .unit)
@[reducible] def tpath_place : Ty := (.pair (.pair .str .unit) (.pair tapi_Place .unit))
@[reducible] def tapi_Msg : Ty := (.pair (.int .i64) (.pair .str (.pair .str (.pair tapi_Span tapi_Pair))))
@[reducible] def tapi_Node : Ty := (.pair (.list tapi_Pair) (.pair (.list .str) (.pair (.list (.int .i64)) (.pair (.list tapi_Sum) (.pair (.list tapi_Msg) .unit)))))
@[reducible] def tapi_Slot : Ty := (.pair .bool (.pair .bool (.pair (.int .i64) (.pair tapi_Node .unit))))
@[reducible] def tapi_Pool : Ty := (.pair (.list tapi_Slot) .unit)
@[reducible] def tbound_reader : Ty := (.pair tapi_Pool .unit)
@[reducible] def ttree_scanner : Ty := (.pair tapi_Pool (.pair (.int .i64) .unit))
@[reducible] def tapi_Tree : Ty := (.pair tapi_Pool (.pair (.int .i64) (.pair tapi_Shape .unit)))
@[reducible] def tlaw22_given : Ty := (.pair tapi_Tree (.pair (.list tapi_Quota) (.pair (.list tapi_Hold) (.pair (.list tapi_Msg) .unit))))
def tree_rightC1 (s : api_Shape) : Option ((Bool) × Unit) :=
 bif (decide ((s.2.1 : Int) ≤ s.1)) then
  some ((decide ((s.1 : Int) ≤ s.2.2.1)), ())
 else
  some (false, ())
def tree_right (s : (api_Shape) × Unit) : Option ((Bool) × Unit) :=
 match tree_rightC1 (s.1.1, (2 : Int), (64 : Int), ()) with
 | none => none
 | some r0 =>
  bif r0.1 then
   match tree_rightC1 (s.1.2.1, (2 : Int), (16 : Int), ()) with
   | none => none
   | some r1 =>
    bif r1.1 then
     match tree_rightC1 (s.1.2.2.1, (1 : Int), (64 : Int), ()) with
     | none => none
     | some r2 =>
      some (r2.1, ())
    else
     some (false, ())
  else
   some (false, ())
def pool_used (s : tree_scanner) : Option ((Bool) × Unit) :=
 bif (decide ((s.2.1 : Int) ≥ (0 : Int))) then
  let t0 : Bool := (decide ((s.2.1 : Int) < ((List.length s.1.1) : Int)))
  bif t0 then
   bif (decide ((0 : Int) ≤ s.2.1) && decide ((s.2.1 : Int) < (List.length s.1.1 : Int))) then
    let t1 : api_Slot := (List.getD s.1.1 (Int.toNat s.2.1) (false, (false, ((0 : Int), ((([] : List (api_Pair)), (([] : List (List UInt8)), (([] : List (Int)), (([] : List (api_Sum)), (([] : List (api_Msg)), ()))))), ())))))
    some (t1.1, ())
   else
    none
  else
   some (false, ())
 else
  some (false, ())
def pool_AddC1 (s : (api_Slot) × Unit) : Option ((Bool) × Unit) :=
 some ((!s.1.1), ())
def slices_IndexFunc_api_Slot_api_Slot_b0 (s : (List (api_Slot)) × (Int) × (Int) × Unit) : Option (((List (api_Slot)) × (Int) × (Int) × Unit) ⊕ (((Int) × Unit) ⊕ (Unit))) :=
 bif (decide ((s.2.2.1 : Int) < s.2.1)) then
  bif (decide ((0 : Int) ≤ s.2.2.1) && decide ((s.2.2.1 : Int) < (List.length s.1 : Int))) then
   let t0 : api_Slot := (List.getD s.1 (Int.toNat s.2.2.1) (false, (false, ((0 : Int), ((([] : List (api_Pair)), (([] : List (List UInt8)), (([] : List (Int)), (([] : List (api_Sum)), (([] : List (api_Msg)), ()))))), ())))))
   match pool_AddC1 (t0, ()) with
   | none => none
   | some r1 =>
    bif r1.1 then
     some (.inr (.inl (s.2.2.1, ())))
    else
     some (.inl (s.1, s.2.1, (IntKind.i64.wrap (s.2.2.1 + (1 : Int))), ()))
  else
   none
 else
  some (.inr (.inr (())))
def slices_IndexFunc_api_Slot_api_Slot_l0 (s : (List (api_Slot)) × (Int) × (Int) × Unit) : Option (((Int) × Unit) ⊕ (Unit)) := loopO (slices_IndexFunc_api_Slot_api_Slot_b0) s
def slices_IndexFunc_api_Slot_api_Slot (s : api_Pool) : Option ((Int) × Unit) :=
 match slices_IndexFunc_api_Slot_api_Slot_l0 (s.1, ((List.length s.1) : Int), (0 : Int), ()) with
 | none => none
 | some (.inl z0) =>
  some (z0.1, ())
 | some (.inr z0) =>
  some ((-1 : Int), ())
def pool_clone (s : bound_reader) : Option (api_Pool) :=
 bif (decide ((0 : Int) ≤ ((List.length s.1.1) : Int)) && decide ((((List.length s.1.1) : Int) : Int) ≤ ((List.length s.1.1) : Int)) && decide (((List.length s.1.1) : Int) * (136 : Int) ≤ (roomMax : Int))) then
  let t0 : List (api_Slot) := (List.take (List.length (List.replicate (Int.toNat ((List.length s.1.1) : Int)) (false, (false, ((0 : Int), ((([] : List (api_Pair)), (([] : List (List UInt8)), (([] : List (Int)), (([] : List (api_Sum)), (([] : List (api_Msg)), ()))))), ())))))) s.1.1)
  let t1 : List (api_Slot) := (List.take 0 (List.replicate (Int.toNat ((List.length s.1.1) : Int)) (false, (false, ((0 : Int), ((([] : List (api_Pair)), (([] : List (List UInt8)), (([] : List (Int)), (([] : List (api_Sum)), (([] : List (api_Msg)), ()))))), ()))))) ++ t0 ++ List.drop (0 + List.length t0) (List.replicate (Int.toNat ((List.length s.1.1) : Int)) (false, (false, ((0 : Int), ((([] : List (api_Pair)), (([] : List (List UInt8)), (([] : List (Int)), (([] : List (api_Sum)), (([] : List (api_Msg)), ()))))), ()))))))
  some (t1, ())
 else
  none
def pool_Add_b0 (s : (List (Int)) × (Int) × (Int) × (api_Pool) × (api_Node) × (List (api_Slot)) × Unit) : Option (((List (Int)) × (Int) × (Int) × (api_Pool) × (api_Node) × (List (api_Slot)) × Unit) ⊕ (((Int) × (Int) × (api_Pool) × Unit) ⊕ ((api_Pool) × (api_Node) × (List (api_Slot)) × Unit))) :=
 bif (decide ((s.2.2.1 : Int) < s.2.1)) then
  bif (decide ((0 : Int) ≤ s.2.2.1) && decide ((s.2.2.1 : Int) < (List.length s.1 : Int))) then
   let t0 : Int := (List.getD s.1 (Int.toNat s.2.2.1) (0 : Int))
   match pool_used (s.2.2.2.1, t0, ()) with
   | none => none
   | some r1 =>
    bif (!r1.1) then
     some (.inr (.inl ((0 : Int), (110 : Int), s.2.2.2.1, ())))
    else
     some (.inl (s.1, s.2.1, (IntKind.i64.wrap (s.2.2.1 + (1 : Int))), s.2.2.2.1, s.2.2.2.2.1, s.2.2.2.2.2.1, ()))
  else
   none
 else
  some (.inr (.inr (s.2.2.2.1, s.2.2.2.2.1, s.2.2.2.2.2.1, ())))
def pool_Add_l0 (s : (List (Int)) × (Int) × (Int) × (api_Pool) × (api_Node) × (List (api_Slot)) × Unit) : Option (((Int) × (Int) × (api_Pool) × Unit) ⊕ ((api_Pool) × (api_Node) × (List (api_Slot)) × Unit)) := loopO (pool_Add_b0) s
def pool_Add_b1 (s : (Int) × (List (Int)) × (Int) × (Int) × (List (api_Slot)) × (List (api_Slot)) × Unit) : Option (((Int) × (List (Int)) × (Int) × (Int) × (List (api_Slot)) × (List (api_Slot)) × Unit) ⊕ (((Int) × (List (api_Slot)) × (List (api_Slot)) × Unit) ⊕ (Unit))) :=
 bif (decide ((s.2.2.2.1 : Int) < s.2.2.1)) then
  bif (decide ((0 : Int) ≤ s.2.2.2.1) && decide ((s.2.2.2.1 : Int) < (List.length s.2.1 : Int))) then
   let t0 : Int := (List.getD s.2.1 (Int.toNat s.2.2.2.1) (0 : Int))
   bif (decide ((0 : Int) ≤ t0) && decide ((t0 : Int) < (List.length s.2.2.2.2.2.1 : Int))) then
    let t1 : api_Slot := (List.getD s.2.2.2.2.2.1 (Int.toNat t0) (false, (false, ((0 : Int), ((([] : List (api_Pair)), (([] : List (List UInt8)), (([] : List (Int)), (([] : List (api_Sum)), (([] : List (api_Msg)), ()))))), ())))))
    let t2 : Int := (IntKind.i64.wrap (t1.2.2.1 + (1 : Int)))
    bif (decide ((0 : Int) ≤ t0) && decide ((t0 : Int) < (List.length s.2.2.2.2.2.1 : Int))) then
     let t3 : List (api_Slot) := (List.set s.2.2.2.2.2.1 (Int.toNat t0) ((List.getD s.2.2.2.2.2.1 (Int.toNat t0) (false, (false, ((0 : Int), ((([] : List (api_Pair)), (([] : List (List UInt8)), (([] : List (Int)), (([] : List (api_Sum)), (([] : List (api_Msg)), ()))))), ()))))).1, ((List.getD s.2.2.2.2.2.1 (Int.toNat t0) (false, (false, ((0 : Int), ((([] : List (api_Pair)), (([] : List (List UInt8)), (([] : List (Int)), (([] : List (api_Sum)), (([] : List (api_Msg)), ()))))), ()))))).2.1, (t2, (List.getD s.2.2.2.2.2.1 (Int.toNat t0) (false, (false, ((0 : Int), ((([] : List (api_Pair)), (([] : List (List UInt8)), (([] : List (Int)), (([] : List (api_Sum)), (([] : List (api_Msg)), ()))))), ()))))).2.2.2))))
     let t4 : Int := (IntKind.i64.wrap (s.2.2.2.1 + (1 : Int)))
     some (.inl (s.1, s.2.1, s.2.2.1, t4, s.2.2.2.2.1, t3, ()))
    else
     none
   else
    none
  else
   none
 else
  some (.inr (.inl (s.1, s.2.2.2.2.1, s.2.2.2.2.2.1, ())))
def pool_Add_l1 (s : (Int) × (List (Int)) × (Int) × (Int) × (List (api_Slot)) × (List (api_Slot)) × Unit) : Option (((Int) × (List (api_Slot)) × (List (api_Slot)) × Unit) ⊕ (Unit)) := loopO (pool_Add_b1) s
def pool_Add_j1 (s : (Int) × (api_Node) × (List (api_Slot)) × (List (api_Slot)) × Unit) : Option (ref11_Added) :=
 bif (decide ((0 : Int) ≤ s.1) && decide ((s.1 : Int) < (List.length s.2.2.2.1 : Int))) then
  let t0 : List (api_Slot) := (List.set s.2.2.2.1 (Int.toNat s.1) (true, (false, ((1 : Int), (s.2.1, ())))))
  match pool_Add_l1 (s.1, s.2.1.2.2.1, ((List.length s.2.1.2.2.1) : Int), (0 : Int), s.2.2.1, t0, ()) with
  | none => none
  | some (.inl z1) =>
   some ((z1.2.2.1, ()), z1.1, (0 : Int), ())
  | some (.inr z1) =>
   none
 else
  none
def pool_Add_j0 (s : (Int) × (api_Pool) × (api_Node) × (List (api_Slot)) × Unit) : Option (ref11_Added) :=
 bif (decide ((s.1 : Int) ≥ (4096 : Int))) then
  some (s.2.1, (0 : Int), (111 : Int), ())
 else
  match pool_clone (s.2.1, ()) with
  | none => none
  | some r0 =>
   let t1 : Bool := (decide ((s.1 : Int) = ((List.length r0.1) : Int)))
   bif t1 then
    bif (decide ((List.length r0.1 + List.length ([(false, (false, ((0 : Int), ((([] : List (api_Pair)), (([] : List (List UInt8)), (([] : List (Int)), (([] : List (api_Sum)), (([] : List (api_Msg)), ()))))), ()))))] : List (api_Slot))) * 136 ≤ roomMax)) then
     let t2 : List (api_Slot) := (r0.1 ++ ([(false, (false, ((0 : Int), ((([] : List (api_Pair)), (([] : List (List UInt8)), (([] : List (Int)), (([] : List (api_Sum)), (([] : List (api_Msg)), ()))))), ()))))] : List (api_Slot)))
     pool_Add_j1 (s.1, s.2.2.1, s.2.2.2.1, t2, ())
    else
     none
   else
    pool_Add_j1 (s.1, s.2.2.1, s.2.2.2.1, r0.1, ())

def pool_Add (s : (api_Pool) × (api_Node) × Unit) : Option (ref11_Added) :=
 match pool_Add_l0 (s.2.1.2.2.1, ((List.length s.2.1.2.2.1) : Int), (0 : Int), s.1, s.2.1, ([] : List (api_Slot)), ()) with
 | none => none
 | some (.inl z0) =>
  some (z0.2.2.1, z0.1, z0.2.1, ())
 | some (.inr z0) =>
  match slices_IndexFunc_api_Slot_api_Slot (z0.1.1, ()) with
  | none => none
  | some r1 =>
   bif (decide ((r1.1 : Int) < (0 : Int))) then
    pool_Add_j0 (((List.length z0.1.1) : Int), z0.1, z0.2.1, z0.2.2.1, ())
   else
    pool_Add_j0 (r1.1, z0.1, z0.2.1, z0.2.2.1, ())
def tree_New (s : (api_Shape) × Unit) : Option ((api_Tree) × (Int) × Unit) :=
 match tree_right (s.1, ()) with
 | none => none
 | some r0 =>
  bif (!r0.1) then
   some (((([] : List (api_Slot)), ()), ((0 : Int), (((0 : Int), ((0 : Int), ((0 : Int), ()))), ()))), (120 : Int), ())
  else
   match pool_Add ((([] : List (api_Slot)), ()), (([] : List (api_Pair)), (([] : List (List UInt8)), (([] : List (Int)), (([] : List (api_Sum)), (([] : List (api_Msg)), ()))))), ()) with
   | none => none
   | some r1 =>
    some ((r1.1, (r1.2.1, (s.1, ()))), r1.2.2.1, ())
def msg_in (s : api_Shape) : Option ((Bool) × Unit) :=
 bif (decide ((s.2.1 : Int) ≤ s.1)) then
  some ((decide ((s.1 : Int) ≤ s.2.2.1)), ())
 else
  some (false, ())
def msg_put_valid (s : (api_Msg) × Unit) : Option ((Bool) × Unit) :=
 match msg_in (((List.length s.1.2.1) : Int), (1 : Int), (65535 : Int), ()) with
 | none => none
 | some r0 =>
  bif r0.1 then
   let t1 : Bool := (decide ((((List.length s.1.2.2.1) : Int) : Int) ≤ (64 : Int)))
   bif t1 then
    match msg_in (s.1.2.2.2.2.2.2.1, (0 : Int), (1000000000 : Int), ()) with
    | none => none
    | some r2 =>
     some (r2.1, ())
   else
    some (false, ())
  else
   some (false, ())
def msg_put_bare (s : (api_Msg) × Unit) : Option ((api_Msg) × Unit) :=
 some ((s.1.1, (s.1.2.1, (s.1.2.2.1, ((([] : List UInt8), (([] : List UInt8), ())), (([] : List UInt8), (([] : List UInt8), (s.1.2.2.2.2.2.2.1, ()))))))), ())
def msg_del_valid (s : (api_Msg) × Unit) : Option ((Bool) × Unit) :=
 match msg_in (((List.length s.1.2.1) : Int), (1 : Int), (65535 : Int), ()) with
 | none => none
 | some r0 =>
  some (r0.1, ())
def msg_del_bare (s : (api_Msg) × Unit) : Option ((api_Msg) × Unit) :=
 some ((s.1.1, (s.1.2.1, (([] : List UInt8), ((([] : List UInt8), (([] : List UInt8), ())), (([] : List UInt8), (([] : List UInt8), ((0 : Int), ()))))))), ())
def span_Empty (s : (api_Span) × Unit) : Option ((Bool) × Unit) :=
 let t0 : Bool := (!decide ((s.1.2.1 : List UInt8) = ([] : List UInt8)))
 bif t0 then
  let t1 : Bool := (Op.bytesLess s.1.2.1 s.1.1 || decide ((s.1.2.1 : List UInt8) = s.1.1))
  some (t1, ())
 else
  some (false, ())
def msg_ends (s : (api_Span) × Unit) : Option ((Bool) × Unit) :=
 match span_Empty (s.1, ()) with
 | none => none
 | some r0 =>
  bif (!r0.1) then
   let t1 : Int := (if (((List.length s.1.1) : Int) : Int) < ((List.length s.1.2.1) : Int) then ((List.length s.1.2.1) : Int) else ((List.length s.1.1) : Int))
   some ((decide ((t1 : Int) ≤ (65535 : Int))), ())
  else
   some (false, ())
def msg_drop_valid (s : (api_Msg) × Unit) : Option ((Bool) × Unit) :=
 match msg_ends (s.1.2.2.2.1, ()) with
 | none => none
 | some r0 =>
  some (r0.1, ())
def msg_drop_bare (s : (api_Msg) × Unit) : Option ((api_Msg) × Unit) :=
 some ((s.1.1, (([] : List UInt8), (([] : List UInt8), (s.1.2.2.2.1, (([] : List UInt8), (([] : List UInt8), ((0 : Int), ()))))))), ())
def internal_stringslite_HasPrefix (s : api_Span) : Option ((Bool) × Unit) :=
 let t0 : Bool := (decide ((((List.length s.1) : Int) : Int) ≥ ((List.length s.2.1) : Int)))
 bif t0 then
  bif (decide (((0 : Int) : Int) ≤ ((List.length s.2.1) : Int)) && decide ((((List.length s.2.1) : Int) : Int) ≤ (List.length s.1 : Int))) then
   let t1 : List UInt8 := (List.drop 0 (List.take (Int.toNat ((List.length s.2.1) : Int)) s.1))
   some ((decide ((t1 : List UInt8) = s.2.1)), ())
  else
   none
 else
  some (false, ())
def strings_HasPrefix (s : api_Span) : Option ((Bool) × Unit) :=
 match internal_stringslite_HasPrefix (s.1, s.2.1, ()) with
 | none => none
 | some r0 =>
  some (r0.1, ())
def msg_apart (s : api_Span) : Option ((Bool) × Unit) :=
 match msg_in (((List.length s.1) : Int), (1 : Int), (200 : Int), ()) with
 | none => none
 | some r0 =>
  bif r0.1 then
   match msg_in (((List.length s.2.1) : Int), (1 : Int), (200 : Int), ()) with
   | none => none
   | some r1 =>
    bif r1.1 then
     match strings_HasPrefix (s.1, s.2.1, ()) with
     | none => none
     | some r2 =>
      bif (!r2.1) then
       match strings_HasPrefix (s.2.1, s.1, ()) with
       | none => none
       | some r3 =>
        some ((!r3.1), ())
      else
       some (false, ())
    else
     some (false, ())
  else
   some (false, ())
def msg_move_valid (s : (api_Msg) × Unit) : Option ((Bool) × Unit) :=
 match msg_apart (s.1.2.2.2.2.1, s.1.2.2.2.2.2.1, ()) with
 | none => none
 | some r0 =>
  some (r0.1, ())
def msg_move_bare (s : (api_Msg) × Unit) : Option ((api_Msg) × Unit) :=
 some ((s.1.1, (([] : List UInt8), (([] : List UInt8), ((([] : List UInt8), (([] : List UInt8), ())), (s.1.2.2.2.2.1, (s.1.2.2.2.2.2.1, ((0 : Int), ()))))))), ())
def msg_clone_valid (s : (api_Msg) × Unit) : Option ((Bool) × Unit) :=
 match msg_apart (s.1.2.2.2.2.1, s.1.2.2.2.2.2.1, ()) with
 | none => none
 | some r0 =>
  some (r0.1, ())
def msg_clone_bare (s : (api_Msg) × Unit) : Option ((api_Msg) × Unit) :=
 some ((s.1.1, (([] : List UInt8), (([] : List UInt8), ((([] : List UInt8), (([] : List UInt8), ())), (s.1.2.2.2.2.1, (s.1.2.2.2.2.2.1, ((0 : Int), ()))))))), ())
def msg_stamp_valid (s : (api_Msg) × Unit) : Option ((Bool) × Unit) :=
 match msg_ends (s.1.2.2.2.1, ()) with
 | none => none
 | some r0 =>
  bif r0.1 then
   match msg_in (s.1.2.2.2.2.2.2.1, (0 : Int), (1000000000 : Int), ()) with
   | none => none
   | some r1 =>
    some (r1.1, ())
  else
   some (false, ())
def msg_stamp_bare (s : (api_Msg) × Unit) : Option ((api_Msg) × Unit) :=
 some ((s.1.1, (([] : List UInt8), (([] : List UInt8), (s.1.2.2.2.1, (([] : List UInt8), (([] : List UInt8), (s.1.2.2.2.2.2.2.1, ()))))))), ())
def msg_Valid (s : (api_Msg) × Unit) : Option ((Bool) × Unit) :=
 bif (decide ((s.1.1 : Int) = (1 : Int))) then
  match msg_put_valid (s.1, ()) with
  | none => none
  | some r0 =>
   bif r0.1 then
    match msg_put_bare (s.1, ()) with
    | none => none
    | some r1 =>
     let t2 : Bool := (Ty.eqb tapi_Msg r1.1 s.1)
     some (t2, ())
   else
    some (false, ())
 else
  bif (decide ((s.1.1 : Int) = (2 : Int))) then
   match msg_del_valid (s.1, ()) with
   | none => none
   | some r0 =>
    bif r0.1 then
     match msg_del_bare (s.1, ()) with
     | none => none
     | some r1 =>
      let t2 : Bool := (Ty.eqb tapi_Msg r1.1 s.1)
      some (t2, ())
    else
     some (false, ())
  else
   bif (decide ((s.1.1 : Int) = (3 : Int))) then
    match msg_drop_valid (s.1, ()) with
    | none => none
    | some r0 =>
     bif r0.1 then
      match msg_drop_bare (s.1, ()) with
      | none => none
      | some r1 =>
       let t2 : Bool := (Ty.eqb tapi_Msg r1.1 s.1)
       some (t2, ())
     else
      some (false, ())
   else
    bif (decide ((s.1.1 : Int) = (4 : Int))) then
     match msg_move_valid (s.1, ()) with
     | none => none
     | some r0 =>
      bif r0.1 then
       match msg_move_bare (s.1, ()) with
       | none => none
       | some r1 =>
        let t2 : Bool := (Ty.eqb tapi_Msg r1.1 s.1)
        some (t2, ())
      else
       some (false, ())
    else
     bif (decide ((s.1.1 : Int) = (5 : Int))) then
      match msg_clone_valid (s.1, ()) with
      | none => none
      | some r0 =>
       bif r0.1 then
        match msg_clone_bare (s.1, ()) with
        | none => none
        | some r1 =>
         let t2 : Bool := (Ty.eqb tapi_Msg r1.1 s.1)
         some (t2, ())
       else
        some (false, ())
     else
      bif (decide ((s.1.1 : Int) = (6 : Int))) then
       match msg_stamp_valid (s.1, ()) with
       | none => none
       | some r0 =>
        bif r0.1 then
         match msg_stamp_bare (s.1, ()) with
         | none => none
         | some r1 =>
          let t2 : Bool := (Ty.eqb tapi_Msg r1.1 s.1)
          some (t2, ())
        else
         some (false, ())
      else
       some (false, ())
def pool_Get (s : tree_scanner) : Option ((api_Node) × (Int) × Unit) :=
 match pool_used (s.1, s.2.1, ()) with
 | none => none
 | some r0 =>
  bif (!r0.1) then
   some ((([] : List (api_Pair)), (([] : List (List UInt8)), (([] : List (Int)), (([] : List (api_Sum)), (([] : List (api_Msg)), ()))))), (110 : Int), ())
  else
   bif (decide ((0 : Int) ≤ s.2.1) && decide ((s.2.1 : Int) < (List.length s.1.1 : Int))) then
    let t1 : api_Slot := (List.getD s.1.1 (Int.toNat s.2.1) (false, (false, ((0 : Int), ((([] : List (api_Pair)), (([] : List (List UInt8)), (([] : List (Int)), (([] : List (api_Sum)), (([] : List (api_Msg)), ()))))), ())))))
    bif t1.2.1 then
     some ((([] : List (api_Pair)), (([] : List (List UInt8)), (([] : List (Int)), (([] : List (api_Sum)), (([] : List (api_Msg)), ()))))), (112 : Int), ())
    else
     bif (decide ((0 : Int) ≤ s.2.1) && decide ((s.2.1 : Int) < (List.length s.1.1 : Int))) then
      let t2 : api_Slot := (List.getD s.1.1 (Int.toNat s.2.1) (false, (false, ((0 : Int), ((([] : List (api_Pair)), (([] : List (List UInt8)), (([] : List (Int)), (([] : List (api_Sum)), (([] : List (api_Msg)), ()))))), ())))))
      some (t2.2.2.2.1, (0 : Int), ())
     else
      none
   else
    none
def tree_leaf (s : (api_Node) × Unit) : Option ((Bool) × Unit) :=
 let t0 : Bool := (decide ((((List.length s.1.2.2.1) : Int) : Int) = (0 : Int)))
 some (t0, ())
def internal_bytealg_CompareString (s : api_Span) : Option ((Int) × Unit) := some ((fun a b => Lib.compareBytes a b) s.1 s.2.1, ())
def strings_Compare (s : api_Span) : Option ((Int) × Unit) :=
 match internal_bytealg_CompareString (s.1, s.2.1, ()) with
 | none => none
 | some r0 =>
  some (r0.1, ())
def table_placeC1 (s : (api_Pair) × (List UInt8) × Unit) : Option ((Int) × Unit) :=
 match strings_Compare (s.1.1, s.2.1, ()) with
 | none => none
 | some r0 =>
  some (r0.1, ())
def slices_BinarySearchFunc_api_Pair_api_Pair_string_b0 (s : (List (api_Pair)) × (List UInt8) × (Int) × (Int) × (Int) × Unit) : Option (((List (api_Pair)) × (List UInt8) × (Int) × (Int) × (Int) × Unit) ⊕ (((List (api_Pair)) × (List UInt8) × (Int) × (Int) × Unit) ⊕ (Unit))) :=
 let t0 : Bool := (decide ((s.2.2.2.1 : Int) < s.2.2.2.2.1))
 bif t0 then
  let t1 : Int := (IntKind.i64.wrap (s.2.2.2.1 + s.2.2.2.2.1))
  let t2 : Int := (Int.fdiv (IntKind.u64.wrap t1) (2 ^ (min (Int.toNat (1 : Int)) IntKind.u64.bits)))
  bif (decide ((0 : Int) ≤ (IntKind.i64.wrap t2)) && decide (((IntKind.i64.wrap t2) : Int) < (List.length s.1 : Int))) then
   let t3 : api_Pair := (List.getD s.1 (Int.toNat (IntKind.i64.wrap t2)) (([] : List UInt8), (([] : List UInt8), ((0 : Int), ()))))
   match table_placeC1 (t3, s.2.1, ()) with
   | none => none
   | some r4 =>
    bif (decide ((r4.1 : Int) < (0 : Int))) then
     let t5 : Int := (IntKind.i64.wrap ((IntKind.i64.wrap t2) + (1 : Int)))
     some (.inl (s.1, s.2.1, s.2.2.1, t5, s.2.2.2.2.1, ()))
    else
     some (.inl (s.1, s.2.1, s.2.2.1, s.2.2.2.1, (IntKind.i64.wrap t2), ()))
  else
   none
 else
  some (.inr (.inl (s.1, s.2.1, s.2.2.1, s.2.2.2.1, ())))
def slices_BinarySearchFunc_api_Pair_api_Pair_string_l0 (s : (List (api_Pair)) × (List UInt8) × (Int) × (Int) × (Int) × Unit) : Option (((List (api_Pair)) × (List UInt8) × (Int) × (Int) × Unit) ⊕ (Unit)) := loopO (slices_BinarySearchFunc_api_Pair_api_Pair_string_b0) s
def slices_BinarySearchFunc_api_Pair_api_Pair_string (s : (List (api_Pair)) × (List UInt8) × Unit) : Option ((Int) × (Bool) × Unit) :=
 match slices_BinarySearchFunc_api_Pair_api_Pair_string_l0 (s.1, s.2.1, ((List.length s.1) : Int), (0 : Int), ((List.length s.1) : Int), ()) with
 | none => none
 | some (.inl z0) =>
  bif (decide ((z0.2.2.2.1 : Int) < z0.2.2.1)) then
   bif (decide ((0 : Int) ≤ z0.2.2.2.1) && decide ((z0.2.2.2.1 : Int) < (List.length z0.1 : Int))) then
    let t1 : api_Pair := (List.getD z0.1 (Int.toNat z0.2.2.2.1) (([] : List UInt8), (([] : List UInt8), ((0 : Int), ()))))
    match table_placeC1 (t1, z0.2.1, ()) with
    | none => none
    | some r2 =>
     some (z0.2.2.2.1, (decide ((r2.1 : Int) = (0 : Int))), ())
   else
    none
  else
   some (z0.2.2.2.1, false, ())
 | some (.inr z0) =>
  none
def table_place (s : (List (api_Pair)) × (List UInt8) × Unit) : Option ((Int) × (Bool) × Unit) :=
 match slices_BinarySearchFunc_api_Pair_api_Pair_string (s.1, s.2.1, ()) with
 | none => none
 | some r0 =>
  some (r0.1, r0.2.1, ())
def slices_Clone_api_Pair_api_Pair (s : (List (api_Pair)) × Unit) : Option ((List (api_Pair)) × Unit) := bif (decide ((List.length ([] : List (api_Pair)) + List.length s.1) * 40 ≤ roomMax)) then some (s.1, ()) else none
def slices_Insert_api_Pair_api_Pair (s : (Int) × (List (api_Pair)) × (List (api_Pair)) × Unit) : Option ((List (api_Pair)) × (List (api_Pair)) × Unit) := insF 40 s
def table_Put (s : (List (api_Pair)) × (api_Pair) × Unit) : Option ((List (api_Pair)) × Unit) :=
 match table_place (s.1, s.2.1.1, ()) with
 | none => none
 | some r0 =>
  match slices_Clone_api_Pair_api_Pair (s.1, ()) with
  | none => none
  | some r1 =>
   bif r0.2.1 then
    bif (decide ((0 : Int) ≤ r0.1) && decide ((r0.1 : Int) < (List.length r1.1 : Int))) then
     some ((List.set r1.1 (Int.toNat r0.1) s.2.1), ())
    else
     none
   else
    match slices_Insert_api_Pair_api_Pair (r0.1, r1.1, ([s.2.1] : List (api_Pair)), ()) with
    | none => none
    | some r2 =>
     some (r2.2.1, ())
def msg_put_apply (s : (api_Msg) × (List (api_Pair)) × Unit) : Option ((List (api_Pair)) × Unit) :=
 match table_Put (s.2.1, (s.1.2.1, (s.1.2.2.1, (s.1.2.2.2.2.2.2.1, ()))), ()) with
 | none => none
 | some r0 =>
  some (r0.1, ())
def span_One (s : (List UInt8) × Unit) : Option ((api_Span) × Unit) :=
 bif (decide (List.length s.1 + List.length ([0] : List UInt8) ≤ roomMax)) then
  some ((s.1, ((s.1 ++ ([0] : List UInt8)), ())), ())
 else
  none
def table_bounds (s : (List (api_Pair)) × (api_Span) × Unit) : Option (api_Use) :=
 match span_Empty (s.2.1, ()) with
 | none => none
 | some r0 =>
  bif r0.1 then
   some ((0 : Int), (0 : Int), ())
  else
   match table_place (s.1, s.2.1.1, ()) with
   | none => none
   | some r1 =>
    let t2 : Bool := (!decide ((s.2.1.2.1 : List UInt8) = ([] : List UInt8)))
    bif t2 then
     match table_place (s.1, s.2.1.2.1, ()) with
     | none => none
     | some r3 =>
      some (r1.1, r3.1, ())
    else
     some (r1.1, ((List.length s.1) : Int), ())
def slices_Grow_api_Pair_api_Pair (s : (Int) × Unit) : Option ((List (api_Pair)) × Unit) :=
 bif (decide ((s.1 : Int) < (0 : Int))) then
  none
 else
  let t0 : Int := (IntKind.i64.wrap ((0 : Int) - (0 : Int)))
  let t1 : Bool := (decide (((IntKind.i64.wrap (s.1 - t0)) : Int) > (0 : Int)))
  bif t1 then
   bif (decide ((0 : Int) < (IntKind.i64.wrap (s.1 - t0))) && decide ((IntKind.i64.wrap (s.1 - t0)) * (40 : Int) ≤ (roomMax : Int))) then
    bif (decide (((0 : Int) : Int) ≤ (List.length (List.replicate (Int.toNat (IntKind.i64.wrap (s.1 - t0))) (([] : List UInt8), (([] : List UInt8), ((0 : Int), ())))) : Int))) then
     let t2 : List (api_Pair) := (List.take 0 (List.replicate (Int.toNat (IntKind.i64.wrap (s.1 - t0))) (([] : List UInt8), (([] : List UInt8), ((0 : Int), ())))))
     some (t2, ())
    else
     none
   else
    none
  else
   some (([] : List (api_Pair)), ())
def slices_Concat_api_Pair_api_Pair_b0 (s : (List (List (api_Pair))) × (Int) × (List (List (api_Pair))) × (Int) × (Int) × Unit) : Option (((List (List (api_Pair))) × (Int) × (List (List (api_Pair))) × (Int) × (Int) × Unit) ⊕ (((List (List (api_Pair))) × (Int) × Unit) ⊕ (Unit))) :=
 let t0 : Bool := (decide ((s.2.2.2.2.1 : Int) < s.2.2.2.1))
 bif t0 then
  bif (decide ((0 : Int) ≤ s.2.2.2.2.1) && decide ((s.2.2.2.2.1 : Int) < (List.length s.2.2.1 : Int))) then
   let t1 : List (api_Pair) := (List.getD s.2.2.1 (Int.toNat s.2.2.2.2.1) ([] : List (api_Pair)))
   let t2 : Int := (IntKind.i64.wrap (s.2.1 + ((List.length t1) : Int)))
   bif (decide ((t2 : Int) < (0 : Int))) then
    none
   else
    let t3 : Int := (IntKind.i64.wrap (s.2.2.2.2.1 + (1 : Int)))
    some (.inl (s.1, t2, s.2.2.1, s.2.2.2.1, t3, ()))
  else
   none
 else
  some (.inr (.inl (s.1, s.2.1, ())))
def slices_Concat_api_Pair_api_Pair_l0 (s : (List (List (api_Pair))) × (Int) × (List (List (api_Pair))) × (Int) × (Int) × Unit) : Option (((List (List (api_Pair))) × (Int) × Unit) ⊕ (Unit)) := loopO (slices_Concat_api_Pair_api_Pair_b0) s
def slices_Concat_api_Pair_api_Pair_b1 (s : (List (List (api_Pair))) × (Int) × (Int) × (List (api_Pair)) × Unit) : Option (((List (List (api_Pair))) × (Int) × (Int) × (List (api_Pair)) × Unit) ⊕ (((List (api_Pair)) × Unit) ⊕ (Unit))) :=
 bif (decide ((s.2.2.1 : Int) < s.2.1)) then
  bif (decide ((0 : Int) ≤ s.2.2.1) && decide ((s.2.2.1 : Int) < (List.length s.1 : Int))) then
   let t0 : List (api_Pair) := (List.getD s.1 (Int.toNat s.2.2.1) ([] : List (api_Pair)))
   bif (decide ((List.length s.2.2.2.1 + List.length t0) * 40 ≤ roomMax)) then
    some (.inl (s.1, s.2.1, (IntKind.i64.wrap (s.2.2.1 + (1 : Int))), (s.2.2.2.1 ++ t0), ()))
   else
    none
  else
   none
 else
  some (.inr (.inl (s.2.2.2.1, ())))
def slices_Concat_api_Pair_api_Pair_l1 (s : (List (List (api_Pair))) × (Int) × (Int) × (List (api_Pair)) × Unit) : Option (((List (api_Pair)) × Unit) ⊕ (Unit)) := loopO (slices_Concat_api_Pair_api_Pair_b1) s
def slices_Concat_api_Pair_api_Pair (s : (List (List (api_Pair))) × Unit) : Option ((List (api_Pair)) × Unit) :=
 match slices_Concat_api_Pair_api_Pair_l0 (s.1, (0 : Int), s.1, ((List.length s.1) : Int), (0 : Int), ()) with
 | none => none
 | some (.inl z0) =>
  match slices_Grow_api_Pair_api_Pair (z0.2.1, ()) with
  | none => none
  | some r1 =>
   match slices_Concat_api_Pair_api_Pair_l1 (z0.1, ((List.length z0.1) : Int), (0 : Int), r1.1, ()) with
   | none => none
   | some (.inl z2) =>
    some (z2.1, ())
   | some (.inr z2) =>
    none
 | some (.inr z0) =>
  none
def table_Drop (s : (List (api_Pair)) × (api_Span) × Unit) : Option ((List (api_Pair)) × Unit) :=
 match table_bounds (s.1, s.2.1, ()) with
 | none => none
 | some r0 =>
  bif (decide (((0 : Int) : Int) ≤ r0.1) && decide ((r0.1 : Int) ≤ (List.length s.1 : Int))) then
   let t1 : List (api_Pair) := (List.drop 0 (List.take (Int.toNat r0.1) s.1))
   bif (decide ((0 : Int) ≤ r0.2.1) && decide ((r0.2.1 : Int) ≤ (List.length s.1 : Int)) && decide (((List.length s.1 : Int) : Int) ≤ (List.length s.1 : Int))) then
    let t2 : List (api_Pair) := (List.drop (Int.toNat r0.2.1) (List.take (Int.toNat (List.length s.1 : Int)) s.1))
    match slices_Concat_api_Pair_api_Pair (([t1, t2] : List (List (api_Pair))), ()) with
    | none => none
    | some r3 =>
     some (r3.1, ())
   else
    none
  else
   none
def table_Del (s : (List (api_Pair)) × (List UInt8) × Unit) : Option ((List (api_Pair)) × Unit) :=
 match span_One (s.2.1, ()) with
 | none => none
 | some r0 =>
  match table_Drop (s.1, r0.1, ()) with
  | none => none
  | some r1 =>
   some (r1.1, ())
def msg_del_apply (s : (api_Msg) × (List (api_Pair)) × Unit) : Option ((List (api_Pair)) × Unit) :=
 match table_Del (s.2.1, s.1.2.1, ()) with
 | none => none
 | some r0 =>
  some (r0.1, ())
def msg_drop_apply (s : (api_Msg) × (List (api_Pair)) × Unit) : Option ((List (api_Pair)) × Unit) :=
 match table_Drop (s.2.1, s.1.2.2.2.1, ()) with
 | none => none
 | some r0 =>
  some (r0.1, ())
def span_Prefix_b0_j0 (s : (List UInt8) × (Bool) × (List UInt8) × (List UInt8) × (List (Int)) × Unit) : Option (((List UInt8) × (List UInt8) × (List UInt8) × (List (Int)) × Unit) ⊕ (((List UInt8) × (List UInt8) × (List UInt8) × (List (Int)) × Unit) ⊕ (Unit))) :=
 bif s.2.1 then
  let t0 : Int := (IntKind.i64.wrap (((List.length s.2.2.2.2.1) : Int) - (1 : Int)))
  bif (decide (((0 : Int) : Int) ≤ t0) && decide ((t0 : Int) ≤ (List.length s.2.2.2.2.1 : Int))) then
   some (.inl (s.1, s.2.2.1, s.2.2.2.1, (List.take (Int.toNat t0) s.2.2.2.2.1), ()))
  else
   none
 else
  some (.inr (.inl (s.1, s.2.2.1, s.2.2.2.1, s.2.2.2.2.1, ())))

def span_Prefix_b0 (s : (List UInt8) × (List UInt8) × (List UInt8) × (List (Int)) × Unit) : Option (((List UInt8) × (List UInt8) × (List UInt8) × (List (Int)) × Unit) ⊕ (((List UInt8) × (List UInt8) × (List UInt8) × (List (Int)) × Unit) ⊕ (Unit))) :=
 let t0 : Bool := (decide ((((List.length s.2.2.2.1) : Int) : Int) > (0 : Int)))
 bif t0 then
  let t1 : Int := (IntKind.i64.wrap (((List.length s.2.2.2.1) : Int) - (1 : Int)))
  bif (decide ((0 : Int) ≤ t1) && decide ((t1 : Int) < (List.length s.2.2.2.1 : Int))) then
   let t2 : Int := (List.getD s.2.2.2.1 (Int.toNat t1) (0 : Int))
   span_Prefix_b0_j0 (s.1, (decide ((t2 : Int) = (255 : Int))), s.2.1, s.2.2.1, s.2.2.2.1, ())
  else
   none
 else
  span_Prefix_b0_j0 (s.1, false, s.2.1, s.2.2.1, s.2.2.2.1, ())
def span_Prefix_l0 (s : (List UInt8) × (List UInt8) × (List UInt8) × (List (Int)) × Unit) : Option (((List UInt8) × (List UInt8) × (List UInt8) × (List (Int)) × Unit) ⊕ (Unit)) := loopO (span_Prefix_b0) s
def span_Prefix (s : (List UInt8) × Unit) : Option ((api_Span) × Unit) :=
 bif (decide (List.length s.1 ≤ roomMax)) then
  match span_Prefix_l0 (s.1, ([] : List UInt8), ([] : List UInt8), (bytesOfS s.1), ()) with
  | none => none
  | some (.inl z0) =>
   let t1 : Bool := (decide ((((List.length z0.2.2.2.1) : Int) : Int) > (0 : Int)))
   bif t1 then
    let t2 : Int := (IntKind.i64.wrap (((List.length z0.2.2.2.1) : Int) - (1 : Int)))
    bif (decide ((0 : Int) ≤ t2) && decide ((t2 : Int) < (List.length z0.2.2.2.1 : Int))) then
     let t3 : Int := (List.getD z0.2.2.2.1 (Int.toNat t2) (0 : Int))
     bif (decide ((0 : Int) ≤ t2) && decide ((t2 : Int) < (List.length z0.2.2.2.1 : Int))) then
      let t4 : List (Int) := (List.set z0.2.2.2.1 (Int.toNat t2) (IntKind.u8.wrap (t3 + (1 : Int))))
      some ((z0.1, ((sOfBytes t4), ())), ())
     else
      none
    else
     none
   else
    some ((z0.1, ((sOfBytes z0.2.2.2.1), ())), ())
  | some (.inr z0) =>
   none
 else
  none
def table_Range (s : (List (api_Pair)) × (api_Span) × Unit) : Option ((List (api_Pair)) × Unit) :=
 match table_bounds (s.1, s.2.1, ()) with
 | none => none
 | some r0 =>
  bif (decide ((0 : Int) ≤ r0.1) && decide ((r0.1 : Int) ≤ r0.2.1) && decide ((r0.2.1 : Int) ≤ (List.length s.1 : Int)) && decide ((r0.2.1 : Int) = r0.2.1)) then
   let t1 : List (api_Pair) := (List.drop (Int.toNat r0.1) (List.take (Int.toNat r0.2.1) s.1))
   some (t1, ())
  else
   none
def internal_stringslite_CutPrefix (s : api_Span) : Option ((List UInt8) × (Bool) × Unit) :=
 match internal_stringslite_HasPrefix (s.1, s.2.1, ()) with
 | none => none
 | some r0 =>
  bif (!r0.1) then
   some (s.1, false, ())
  else
   bif (decide ((0 : Int) ≤ ((List.length s.2.1) : Int)) && decide ((((List.length s.2.1) : Int) : Int) ≤ (List.length s.1 : Int)) && decide (((List.length s.1 : Int) : Int) ≤ (List.length s.1 : Int))) then
    let t1 : List UInt8 := (List.drop (Int.toNat ((List.length s.2.1) : Int)) (List.take (Int.toNat (List.length s.1 : Int)) s.1))
    some (t1, true, ())
   else
    none
def strings_CutPrefix (s : api_Span) : Option ((List UInt8) × (Bool) × Unit) :=
 match internal_stringslite_CutPrefix (s.1, s.2.1, ()) with
 | none => none
 | some r0 =>
  some (r0.1, r0.2.1, ())
def span_Moved (s : (List UInt8) × (List UInt8) × (List UInt8) × Unit) : Option ((List UInt8) × (Bool) × Unit) :=
 match strings_CutPrefix (s.1, s.2.1, ()) with
 | none => none
 | some r0 =>
  bif (!r0.2.1) then
   some (([] : List UInt8), false, ())
  else
   bif (decide (List.length s.2.2.1 + List.length r0.1 ≤ roomMax)) then
    some ((s.2.2.1 ++ r0.1), true, ())
   else
    none
def msg_moved_b0 (s : (List UInt8) × (List UInt8) × (Int) × (Int) × (List (api_Pair)) × Unit) : Option (((List UInt8) × (List UInt8) × (Int) × (Int) × (List (api_Pair)) × Unit) ⊕ (((List (api_Pair)) × Unit) ⊕ (Unit))) :=
 bif (decide ((s.2.2.2.1 : Int) < s.2.2.1)) then
  bif (decide ((0 : Int) ≤ s.2.2.2.1) && decide ((s.2.2.2.1 : Int) < (List.length s.2.2.2.2.1 : Int))) then
   let t0 : api_Pair := (List.getD s.2.2.2.2.1 (Int.toNat s.2.2.2.1) (([] : List UInt8), (([] : List UInt8), ((0 : Int), ()))))
   match span_Moved (t0.1, s.1, s.2.1, ()) with
   | none => none
   | some r1 =>
    bif (decide ((0 : Int) ≤ s.2.2.2.1) && decide ((s.2.2.2.1 : Int) < (List.length s.2.2.2.2.1 : Int))) then
     let t2 : List (api_Pair) := (List.set s.2.2.2.2.1 (Int.toNat s.2.2.2.1) (r1.1, (List.getD s.2.2.2.2.1 (Int.toNat s.2.2.2.1) (([] : List UInt8), (([] : List UInt8), ((0 : Int), ())))).2))
     let t3 : Int := (IntKind.i64.wrap (s.2.2.2.1 + (1 : Int)))
     some (.inl (s.1, s.2.1, s.2.2.1, t3, t2, ()))
    else
     none
  else
   none
 else
  some (.inr (.inl (s.2.2.2.2.1, ())))
def msg_moved_l0 (s : (List UInt8) × (List UInt8) × (Int) × (Int) × (List (api_Pair)) × Unit) : Option (((List (api_Pair)) × Unit) ⊕ (Unit)) := loopO (msg_moved_b0) s
def msg_moved (s : (List (api_Pair)) × (List UInt8) × (List UInt8) × Unit) : Option ((List (api_Pair)) × Unit) :=
 match span_Prefix (s.2.1, ()) with
 | none => none
 | some r0 =>
  match table_Range (s.1, r0.1, ()) with
  | none => none
  | some r1 =>
   match slices_Clone_api_Pair_api_Pair (r1.1, ()) with
   | none => none
   | some r2 =>
    match msg_moved_l0 (s.2.1, s.2.2.1, ((List.length r2.1) : Int), (0 : Int), r2.1, ()) with
    | none => none
    | some (.inl z3) =>
     some (z3.1, ())
    | some (.inr z3) =>
     none
def table_Union_b0_j0 (s : (List (api_Pair)) × (List (api_Pair)) × (List (api_Pair)) × Unit) : Option (((List (api_Pair)) × (List (api_Pair)) × (List (api_Pair)) × Unit) ⊕ (((List (api_Pair)) × (List (api_Pair)) × (List (api_Pair)) × Unit) ⊕ (Unit))) :=
 bif (decide (((0 : Int) : Int) < (List.length s.2.1 : Int))) then
  let t0 : api_Pair := (List.getD s.2.1 0 (([] : List UInt8), (([] : List UInt8), ((0 : Int), ()))))
  bif (decide ((List.length s.2.2.1 + List.length ([t0] : List (api_Pair))) * 40 ≤ roomMax)) then
   let t1 : List (api_Pair) := (s.2.2.1 ++ ([t0] : List (api_Pair)))
   bif (decide (((1 : Int) : Int) ≤ (List.length s.2.1 : Int)) && decide (((List.length s.2.1 : Int) : Int) ≤ (List.length s.2.1 : Int))) then
    let t2 : List (api_Pair) := (List.drop (Int.toNat (1 : Int)) (List.take (Int.toNat (List.length s.2.1 : Int)) s.2.1))
    some (.inl (s.1, t2, t1, ()))
   else
    none
  else
   none
 else
  none
def table_Union_b0_j1 (s : (List (api_Pair)) × (List (api_Pair)) × (Bool) × (List (api_Pair)) × Unit) : Option (((List (api_Pair)) × (List (api_Pair)) × (List (api_Pair)) × Unit) ⊕ (((List (api_Pair)) × (List (api_Pair)) × (List (api_Pair)) × Unit) ⊕ (Unit))) :=
 bif s.2.2.1 then
  some (.inr (.inl (s.1, s.2.1, s.2.2.2.1, ())))
 else
  bif (decide (((0 : Int) : Int) < (List.length s.1 : Int))) then
   let t0 : api_Pair := (List.getD s.1 0 (([] : List UInt8), (([] : List UInt8), ((0 : Int), ()))))
   bif (decide (((0 : Int) : Int) < (List.length s.2.1 : Int))) then
    let t1 : api_Pair := (List.getD s.2.1 0 (([] : List UInt8), (([] : List UInt8), ((0 : Int), ()))))
    bif (Op.bytesLess t0.1 t1.1) then
     bif (decide (((0 : Int) : Int) < (List.length s.1 : Int))) then
      let t2 : api_Pair := (List.getD s.1 0 (([] : List UInt8), (([] : List UInt8), ((0 : Int), ()))))
      bif (decide ((List.length s.2.2.2.1 + List.length ([t2] : List (api_Pair))) * 40 ≤ roomMax)) then
       let t3 : List (api_Pair) := (s.2.2.2.1 ++ ([t2] : List (api_Pair)))
       bif (decide (((1 : Int) : Int) ≤ (List.length s.1 : Int)) && decide (((List.length s.1 : Int) : Int) ≤ (List.length s.1 : Int))) then
        let t4 : List (api_Pair) := (List.drop (Int.toNat (1 : Int)) (List.take (Int.toNat (List.length s.1 : Int)) s.1))
        some (.inl (t4, s.2.1, t3, ()))
       else
        none
      else
       none
     else
      none
    else
     bif (decide (((0 : Int) : Int) < (List.length s.1 : Int))) then
      let t2 : api_Pair := (List.getD s.1 0 (([] : List UInt8), (([] : List UInt8), ((0 : Int), ()))))
      bif (decide (((0 : Int) : Int) < (List.length s.2.1 : Int))) then
       let t3 : api_Pair := (List.getD s.2.1 0 (([] : List UInt8), (([] : List UInt8), ((0 : Int), ()))))
       bif (decide ((t2.1 : List UInt8) = t3.1)) then
        bif (decide (((1 : Int) : Int) ≤ (List.length s.1 : Int)) && decide (((List.length s.1 : Int) : Int) ≤ (List.length s.1 : Int))) then
         let t4 : List (api_Pair) := (List.drop (Int.toNat (1 : Int)) (List.take (Int.toNat (List.length s.1 : Int)) s.1))
         table_Union_b0_j0 (t4, s.2.1, s.2.2.2.1, ())
        else
         none
       else
        table_Union_b0_j0 (s.1, s.2.1, s.2.2.2.1, ())
      else
       none
     else
      none
   else
    none
  else
   none

def table_Union_b0 (s : (List (api_Pair)) × (List (api_Pair)) × (List (api_Pair)) × Unit) : Option (((List (api_Pair)) × (List (api_Pair)) × (List (api_Pair)) × Unit) ⊕ (((List (api_Pair)) × (List (api_Pair)) × (List (api_Pair)) × Unit) ⊕ (Unit))) :=
 let t0 : Bool := (decide ((((List.length s.1) : Int) : Int) = (0 : Int)))
 bif (!t0) then
  let t1 : Bool := (decide ((((List.length s.2.1) : Int) : Int) = (0 : Int)))
  table_Union_b0_j1 (s.1, s.2.1, t1, s.2.2.1, ())
 else
  table_Union_b0_j1 (s.1, s.2.1, true, s.2.2.1, ())
def table_Union_l0 (s : (List (api_Pair)) × (List (api_Pair)) × (List (api_Pair)) × Unit) : Option (((List (api_Pair)) × (List (api_Pair)) × (List (api_Pair)) × Unit) ⊕ (Unit)) := loopO (table_Union_b0) s
def table_Union (s : (List (api_Pair)) × (List (api_Pair)) × Unit) : Option ((List (api_Pair)) × Unit) :=
 let t0 : Int := (IntKind.i64.wrap (((List.length s.1) : Int) + ((List.length s.2.1) : Int)))
 bif (decide ((0 : Int) ≤ (0 : Int)) && decide (((0 : Int) : Int) ≤ t0) && decide (t0 * (40 : Int) ≤ (roomMax : Int))) then
  match table_Union_l0 (s.1, s.2.1, (List.replicate 0 (([] : List UInt8), (([] : List UInt8), ((0 : Int), ())))), ()) with
  | none => none
  | some (.inl z1) =>
   bif (decide ((List.length z1.2.2.1 + List.length z1.1) * 40 ≤ roomMax)) then
    bif (decide ((List.length (z1.2.2.1 ++ z1.1) + List.length z1.2.1) * 40 ≤ roomMax)) then
     some (((z1.2.2.1 ++ z1.1) ++ z1.2.1), ())
    else
     none
   else
    none
  | some (.inr z1) =>
   none
 else
  none
def msg_clone_apply (s : (api_Msg) × (List (api_Pair)) × Unit) : Option ((List (api_Pair)) × Unit) :=
 match span_Prefix (s.1.2.2.2.2.2.1, ()) with
 | none => none
 | some r0 =>
  match table_Drop (s.2.1, r0.1, ()) with
  | none => none
  | some r1 =>
   match msg_moved (s.2.1, s.1.2.2.2.2.1, s.1.2.2.2.2.2.1, ()) with
   | none => none
   | some r2 =>
    match table_Union (r1.1, r2.1, ()) with
    | none => none
    | some r3 =>
     some (r3.1, ())
def msg_move_apply (s : (api_Msg) × (List (api_Pair)) × Unit) : Option ((List (api_Pair)) × Unit) :=
 match msg_clone_apply (s.1, s.2.1, ()) with
 | none => none
 | some r0 =>
  match span_Prefix (s.1.2.2.2.2.1, ()) with
  | none => none
  | some r1 =>
   match table_Drop (r0.1, r1.1, ()) with
   | none => none
   | some r2 =>
    some (r2.1, ())
def span_Has (s : (api_Span) × (List UInt8) × Unit) : Option ((Bool) × Unit) :=
 bif (!(Op.bytesLess s.2.1 s.1.1)) then
  let t0 : Bool := (decide ((s.1.2.1 : List UInt8) = ([] : List UInt8)))
  bif (!t0) then
   some ((Op.bytesLess s.2.1 s.1.2.1), ())
  else
   some (true, ())
 else
  some (false, ())
def msg_stamp_apply_b0 (s : (Int) × (Int) × (api_Msg) × (List (api_Pair)) × Unit) : Option (((Int) × (Int) × (api_Msg) × (List (api_Pair)) × Unit) ⊕ (((List (api_Pair)) × Unit) ⊕ (Unit))) :=
 bif (decide ((s.2.1 : Int) < s.1)) then
  bif (decide ((0 : Int) ≤ s.2.1) && decide ((s.2.1 : Int) < (List.length s.2.2.2.1 : Int))) then
   let t0 : api_Pair := (List.getD s.2.2.2.1 (Int.toNat s.2.1) (([] : List UInt8), (([] : List UInt8), ((0 : Int), ()))))
   match span_Has (s.2.2.1.2.2.2.1, t0.1, ()) with
   | none => none
   | some r1 =>
    bif r1.1 then
     bif (decide ((0 : Int) ≤ s.2.1) && decide ((s.2.1 : Int) < (List.length s.2.2.2.1 : Int))) then
      let t2 : List (api_Pair) := (List.set s.2.2.2.1 (Int.toNat s.2.1) ((List.getD s.2.2.2.1 (Int.toNat s.2.1) (([] : List UInt8), (([] : List UInt8), ((0 : Int), ())))).1, ((List.getD s.2.2.2.1 (Int.toNat s.2.1) (([] : List UInt8), (([] : List UInt8), ((0 : Int), ())))).2.1, (s.2.2.1.2.2.2.2.2.2.1, (List.getD s.2.2.2.1 (Int.toNat s.2.1) (([] : List UInt8), (([] : List UInt8), ((0 : Int), ())))).2.2.2))))
      some (.inl (s.1, (IntKind.i64.wrap (s.2.1 + (1 : Int))), s.2.2.1, t2, ()))
     else
      none
    else
     some (.inl (s.1, (IntKind.i64.wrap (s.2.1 + (1 : Int))), s.2.2.1, s.2.2.2.1, ()))
  else
   none
 else
  some (.inr (.inl (s.2.2.2.1, ())))
def msg_stamp_apply_l0 (s : (Int) × (Int) × (api_Msg) × (List (api_Pair)) × Unit) : Option (((List (api_Pair)) × Unit) ⊕ (Unit)) := loopO (msg_stamp_apply_b0) s
def msg_stamp_apply (s : (api_Msg) × (List (api_Pair)) × Unit) : Option ((List (api_Pair)) × Unit) :=
 match slices_Clone_api_Pair_api_Pair (s.2.1, ()) with
 | none => none
 | some r0 =>
  match msg_stamp_apply_l0 (((List.length r0.1) : Int), (0 : Int), s.1, r0.1, ()) with
  | none => none
  | some (.inl z1) =>
   some (z1.1, ())
  | some (.inr z1) =>
   none
def msg_Apply (s : (List (api_Pair)) × (api_Msg) × Unit) : Option ((List (api_Pair)) × Unit) :=
 bif (decide ((s.2.1.1 : Int) = (1 : Int))) then
  match msg_put_apply (s.2.1, s.1, ()) with
  | none => none
  | some r0 =>
   some (r0.1, ())
 else
  bif (decide ((s.2.1.1 : Int) = (2 : Int))) then
   match msg_del_apply (s.2.1, s.1, ()) with
   | none => none
   | some r0 =>
    some (r0.1, ())
  else
   bif (decide ((s.2.1.1 : Int) = (3 : Int))) then
    match msg_drop_apply (s.2.1, s.1, ()) with
    | none => none
    | some r0 =>
     some (r0.1, ())
   else
    bif (decide ((s.2.1.1 : Int) = (4 : Int))) then
     match msg_move_apply (s.2.1, s.1, ()) with
     | none => none
     | some r0 =>
      some (r0.1, ())
    else
     bif (decide ((s.2.1.1 : Int) = (5 : Int))) then
      match msg_clone_apply (s.2.1, s.1, ()) with
      | none => none
      | some r0 =>
       some (r0.1, ())
     else
      bif (decide ((s.2.1.1 : Int) = (6 : Int))) then
       match msg_stamp_apply (s.2.1, s.1, ()) with
       | none => none
       | some r0 =>
        some (r0.1, ())
      else
       some (s.1, ())
def pool_Drop_b0 (s : (List (api_Slot)) × (List (Int)) × (List (api_Slot)) × Unit) : Option (((List (api_Slot)) × (List (Int)) × (List (api_Slot)) × Unit) ⊕ (((List (api_Slot)) × (List (api_Slot)) × Unit) ⊕ (Unit))) :=
 let t0 : Bool := (decide ((((List.length s.2.1) : Int) : Int) > (0 : Int)))
 bif t0 then
  let t1 : Int := (IntKind.i64.wrap (((List.length s.2.1) : Int) - (1 : Int)))
  bif (decide ((0 : Int) ≤ t1) && decide ((t1 : Int) < (List.length s.2.1 : Int))) then
   let t2 : Int := (List.getD s.2.1 (Int.toNat t1) (0 : Int))
   let t3 : Int := (IntKind.i64.wrap (((List.length s.2.1) : Int) - (1 : Int)))
   bif (decide (((0 : Int) : Int) ≤ t3) && decide ((t3 : Int) ≤ (List.length s.2.1 : Int))) then
    bif (decide ((0 : Int) ≤ t2) && decide ((t2 : Int) < (List.length s.2.2.1 : Int))) then
     let t4 : api_Slot := (List.getD s.2.2.1 (Int.toNat t2) (false, (false, ((0 : Int), ((([] : List (api_Pair)), (([] : List (List UInt8)), (([] : List (Int)), (([] : List (api_Sum)), (([] : List (api_Msg)), ()))))), ())))))
     let t5 : Int := (IntKind.i64.wrap (t4.2.2.1 - (1 : Int)))
     let t6 : List (api_Slot) := (List.set s.2.2.1 (Int.toNat t2) ((List.getD s.2.2.1 (Int.toNat t2) (false, (false, ((0 : Int), ((([] : List (api_Pair)), (([] : List (List UInt8)), (([] : List (Int)), (([] : List (api_Sum)), (([] : List (api_Msg)), ()))))), ()))))).1, ((List.getD s.2.2.1 (Int.toNat t2) (false, (false, ((0 : Int), ((([] : List (api_Pair)), (([] : List (List UInt8)), (([] : List (Int)), (([] : List (api_Sum)), (([] : List (api_Msg)), ()))))), ()))))).2.1, (t5, (List.getD s.2.2.1 (Int.toNat t2) (false, (false, ((0 : Int), ((([] : List (api_Pair)), (([] : List (List UInt8)), (([] : List (Int)), (([] : List (api_Sum)), (([] : List (api_Msg)), ()))))), ()))))).2.2.2))))
     let t7 : api_Slot := (List.getD t6 (Int.toNat t2) (false, (false, ((0 : Int), ((([] : List (api_Pair)), (([] : List (List UInt8)), (([] : List (Int)), (([] : List (api_Sum)), (([] : List (api_Msg)), ()))))), ())))))
     bif (decide ((t7.2.2.1 : Int) > (0 : Int))) then
      some (.inl (s.1, (List.take (Int.toNat t3) s.2.1), t6, ()))
     else
      let t8 : api_Slot := (List.getD t6 (Int.toNat t2) (false, (false, ((0 : Int), ((([] : List (api_Pair)), (([] : List (List UInt8)), (([] : List (Int)), (([] : List (api_Sum)), (([] : List (api_Msg)), ()))))), ())))))
      bif (decide ((List.length (List.take (Int.toNat t3) s.2.1) + List.length t8.2.2.2.1.2.2.1) * 8 ≤ roomMax)) then
       let t9 : List (Int) := (List.take (Int.toNat t3) s.2.1 ++ t8.2.2.2.1.2.2.1)
       let t10 : List (api_Slot) := (List.set t6 (Int.toNat t2) (false, (false, ((0 : Int), ((([] : List (api_Pair)), (([] : List (List UInt8)), (([] : List (Int)), (([] : List (api_Sum)), (([] : List (api_Msg)), ()))))), ())))))
       some (.inl (s.1, t9, t10, ()))
      else
       none
    else
     none
   else
    none
  else
   none
 else
  some (.inr (.inl (s.1, s.2.2.1, ())))
def pool_Drop_l0 (s : (List (api_Slot)) × (List (Int)) × (List (api_Slot)) × Unit) : Option (((List (api_Slot)) × (List (api_Slot)) × Unit) ⊕ (Unit)) := loopO (pool_Drop_b0) s
def pool_Drop (s : tree_scanner) : Option (tree_scanner) :=
 match pool_used (s.1, s.2.1, ()) with
 | none => none
 | some r0 =>
  bif (!r0.1) then
   some (s.1, (110 : Int), ())
  else
   match pool_clone (s.1, ()) with
   | none => none
   | some r1 =>
    match pool_Drop_l0 (([] : List (api_Slot)), ([s.2.1] : List (Int)), r1.1, ()) with
    | none => none
    | some (.inl z2) =>
     some ((z2.2.1, ()), (0 : Int), ())
    | some (.inr z2) =>
     none
def slices_Clip_api_Msg_api_Msg (s : (List (api_Msg)) × Unit) : Option ((List (api_Msg)) × Unit) :=
 bif (decide ((0 : Int) ≤ (0 : Int)) && decide (((0 : Int) : Int) ≤ ((List.length s.1) : Int)) && decide ((((List.length s.1) : Int) : Int) ≤ (List.length s.1 : Int)) && decide ((((List.length s.1) : Int) : Int) = ((List.length s.1) : Int))) then
  let t0 : List (api_Msg) := (List.drop 0 (List.take (Int.toNat ((List.length s.1) : Int)) s.1))
  some (t0, ())
 else
  none
def tree_Add (s : (api_Tree) × (api_Msg) × Unit) : Option ((api_Tree) × (Int) × Unit) :=
 match msg_Valid (s.2.1, ()) with
 | none => none
 | some r0 =>
  bif (!r0.1) then
   some (s.1, (50 : Int), ())
  else
   match pool_Get (s.1.1, s.1.2.1, ()) with
   | none => none
   | some r1 =>
    bif (!decide ((r1.2.1 : Int) = (0 : Int))) then
     some (s.1, r1.2.1, ())
    else
     match tree_leaf (r1.1, ()) with
     | none => none
     | some r2 =>
      bif r2.1 then
       match msg_Apply (r1.1.1, s.2.1, ()) with
       | none => none
       | some r3 =>
        match pool_Add (s.1.1, (r3.1, (r1.1.2.1, (r1.1.2.2.1, (r1.1.2.2.2.1, (r1.1.2.2.2.2.1, ()))))), ()) with
        | none => none
        | some r4 =>
         bif (!decide ((r4.2.2.1 : Int) = (0 : Int))) then
          some (s.1, r4.2.2.1, ())
         else
          match pool_Drop (r4.1, s.1.2.1, ()) with
          | none => none
          | some r5 =>
           bif (!decide ((r5.2.1 : Int) = (0 : Int))) then
            some (s.1, r5.2.1, ())
           else
            some ((r5.1, (r4.2.1, (s.1.2.2.1, ()))), (0 : Int), ())
      else
       match slices_Clip_api_Msg_api_Msg (r1.1.2.2.2.2.1, ()) with
       | none => none
       | some r3 =>
        bif (decide (0 < List.length ([s.2.1] : List (api_Msg))) && decide ((List.length r3.1 + List.length ([s.2.1] : List (api_Msg))) * 112 ≤ roomMax)) then
         let t4 : List (api_Msg) := (r3.1 ++ ([s.2.1] : List (api_Msg)))
         match pool_Add (s.1.1, (r1.1.1, (r1.1.2.1, (r1.1.2.2.1, (r1.1.2.2.2.1, (t4, ()))))), ()) with
         | none => none
         | some r5 =>
          bif (!decide ((r5.2.2.1 : Int) = (0 : Int))) then
           some (s.1, r5.2.2.1, ())
          else
           match pool_Drop (r5.1, s.1.2.1, ()) with
           | none => none
           | some r6 =>
            bif (!decide ((r6.2.1 : Int) = (0 : Int))) then
             some (s.1, r6.2.1, ())
            else
             some ((r6.1, (r5.2.1, (s.1.2.2.1, ()))), (0 : Int), ())
        else
         none
def ref12_Right (s : (api_Shape) × Unit) : Option ((Bool) × Unit) :=
 bif (decide ((s.1.1 : Int) ≥ (2 : Int))) then
  bif (decide ((s.1.1 : Int) ≤ (64 : Int))) then
   bif (decide ((s.1.2.1 : Int) ≥ (2 : Int))) then
    bif (decide ((s.1.2.1 : Int) ≤ (16 : Int))) then
     bif (decide ((s.1.2.2.1 : Int) ≥ (1 : Int))) then
      let t0 : Bool := (decide ((s.1.2.2.1 : Int) ≤ (64 : Int)))
      some (t0, ())
     else
      some (false, ())
    else
     some (false, ())
   else
    some (false, ())
  else
   some (false, ())
 else
  some (false, ())
def ref11_Used (s : tree_scanner) : Option ((Bool) × Unit) :=
 bif (decide ((s.2.1 : Int) ≥ (0 : Int))) then
  let t0 : Bool := (decide ((s.2.1 : Int) < ((List.length s.1.1) : Int)))
  bif t0 then
   bif (decide ((0 : Int) ≤ s.2.1) && decide ((s.2.1 : Int) < (List.length s.1.1 : Int))) then
    let t1 : api_Slot := (List.getD s.1.1 (Int.toNat s.2.1) (false, (false, ((0 : Int), ((([] : List (api_Pair)), (([] : List (List UInt8)), (([] : List (Int)), (([] : List (api_Sum)), (([] : List (api_Msg)), ()))))), ())))))
    some (t1.1, ())
   else
    none
  else
   some (false, ())
 else
  some (false, ())
def ref11_Get (s : tree_scanner) : Option ((api_Node) × (Int) × Unit) :=
 match ref11_Used (s.1, s.2.1, ()) with
 | none => none
 | some r0 =>
  bif (!r0.1) then
   some ((([] : List (api_Pair)), (([] : List (List UInt8)), (([] : List (Int)), (([] : List (api_Sum)), (([] : List (api_Msg)), ()))))), (110 : Int), ())
  else
   bif (decide ((0 : Int) ≤ s.2.1) && decide ((s.2.1 : Int) < (List.length s.1.1 : Int))) then
    let t1 : api_Slot := (List.getD s.1.1 (Int.toNat s.2.1) (false, (false, ((0 : Int), ((([] : List (api_Pair)), (([] : List (List UInt8)), (([] : List (Int)), (([] : List (api_Sum)), (([] : List (api_Msg)), ()))))), ())))))
    bif t1.2.1 then
     some ((([] : List (api_Pair)), (([] : List (List UInt8)), (([] : List (Int)), (([] : List (api_Sum)), (([] : List (api_Msg)), ()))))), (112 : Int), ())
    else
     bif (decide ((0 : Int) ≤ s.2.1) && decide ((s.2.1 : Int) < (List.length s.1.1 : Int))) then
      let t2 : api_Slot := (List.getD s.1.1 (Int.toNat s.2.1) (false, (false, ((0 : Int), ((([] : List (api_Pair)), (([] : List (List UInt8)), (([] : List (Int)), (([] : List (api_Sum)), (([] : List (api_Msg)), ()))))), ())))))
      some (t2.2.2.2.1, (0 : Int), ())
     else
      none
   else
    none
def ref04_Valid_b0 (s : (List (api_Pair)) × (Int) × Unit) : Option (((List (api_Pair)) × (Int) × Unit) ⊕ (((Bool) × Unit) ⊕ (Unit))) :=
 let t0 : Bool := (decide ((s.2.1 : Int) < ((List.length s.1) : Int)))
 bif t0 then
  bif (decide ((0 : Int) ≤ (IntKind.i64.wrap (s.2.1 - (1 : Int)))) && decide (((IntKind.i64.wrap (s.2.1 - (1 : Int))) : Int) < (List.length s.1 : Int))) then
   let t1 : api_Pair := (List.getD s.1 (Int.toNat (IntKind.i64.wrap (s.2.1 - (1 : Int)))) (([] : List UInt8), (([] : List UInt8), ((0 : Int), ()))))
   bif (decide ((0 : Int) ≤ s.2.1) && decide ((s.2.1 : Int) < (List.length s.1 : Int))) then
    let t2 : api_Pair := (List.getD s.1 (Int.toNat s.2.1) (([] : List UInt8), (([] : List UInt8), ((0 : Int), ()))))
    bif (!(Op.bytesLess t1.1 t2.1)) then
     some (.inr (.inl (false, ())))
    else
     some (.inl (s.1, (IntKind.i64.wrap (s.2.1 + (1 : Int))), ()))
   else
    none
  else
   none
 else
  some (.inr (.inr (())))
def ref04_Valid_l0 (s : (List (api_Pair)) × (Int) × Unit) : Option (((Bool) × Unit) ⊕ (Unit)) := loopO (ref04_Valid_b0) s
def ref04_Valid (s : (List (api_Pair)) × Unit) : Option ((Bool) × Unit) :=
 match ref04_Valid_l0 (s.1, (1 : Int), ()) with
 | none => none
 | some (.inl z0) =>
  some (z0.1, ())
 | some (.inr z0) =>
  some (true, ())
def ref02_Has (s : (api_Span) × (List UInt8) × Unit) : Option ((Bool) × Unit) :=
 bif (!(Op.bytesLess s.2.1 s.1.1)) then
  let t0 : Bool := (decide ((s.1.2.1 : List UInt8) = ([] : List UInt8)))
  bif (!t0) then
   some ((Op.bytesLess s.2.1 s.1.2.1), ())
  else
   some (true, ())
 else
  some (false, ())
def ref10_in (s : api_Shape) : Option ((Bool) × Unit) :=
 bif (decide ((s.1 : Int) ≥ s.2.1)) then
  some ((decide ((s.1 : Int) ≤ s.2.2.1)), ())
 else
  some (false, ())
def ref10_leaf_b0 (s : (Int) × (api_Node) × (api_Span) × Unit) : Option (((Int) × (api_Node) × (api_Span) × Unit) ⊕ (((Bool) × Unit) ⊕ (Unit))) :=
 let t0 : Bool := (decide ((s.1 : Int) < ((List.length s.2.1.1) : Int)))
 bif t0 then
  bif (decide ((0 : Int) ≤ s.1) && decide ((s.1 : Int) < (List.length s.2.1.1 : Int))) then
   let t1 : api_Pair := (List.getD s.2.1.1 (Int.toNat s.1) (([] : List UInt8), (([] : List UInt8), ((0 : Int), ()))))
   match ref02_Has (s.2.2.1, t1.1, ()) with
   | none => none
   | some r2 =>
    bif (!(!r2.1)) then
     match ref10_in (((List.length t1.1) : Int), (1 : Int), (65535 : Int), ()) with
     | none => none
     | some r3 =>
      bif (!(!r3.1)) then
       let t4 : Bool := (decide ((((List.length t1.2.1) : Int) : Int) > (64 : Int)))
       bif (!t4) then
        match ref10_in (t1.2.2.1, (0 : Int), (1000000000 : Int), ()) with
        | none => none
        | some r5 =>
         bif (!r5.1) then
          some (.inr (.inl (false, ())))
         else
          some (.inl ((IntKind.i64.wrap (s.1 + (1 : Int))), s.2.1, s.2.2.1, ()))
       else
        some (.inr (.inl (false, ())))
      else
       some (.inr (.inl (false, ())))
    else
     some (.inr (.inl (false, ())))
  else
   none
 else
  some (.inr (.inr (())))
def ref10_leaf_l0 (s : (Int) × (api_Node) × (api_Span) × Unit) : Option (((Bool) × Unit) ⊕ (Unit)) := loopO (ref10_leaf_b0) s
def ref10_leaf (s : (api_Node) × (api_Span) × Unit) : Option ((Bool) × Unit) :=
 let t0 : Bool := (decide ((((List.length s.1.2.1) : Int) : Int) > (0 : Int)))
 bif (!t0) then
  let t1 : Bool := (decide ((((List.length s.1.2.2.2.1) : Int) : Int) > (0 : Int)))
  bif (!t1) then
   let t2 : Bool := (decide ((((List.length s.1.2.2.2.2.1) : Int) : Int) > (0 : Int)))
   bif (!t2) then
    match ref04_Valid (s.1.1, ()) with
    | none => none
    | some r3 =>
     bif (!r3.1) then
      some (false, ())
     else
      match ref10_leaf_l0 ((0 : Int), s.1, s.2.1, ()) with
      | none => none
      | some (.inl z4) =>
       some (z4.1, ())
      | some (.inr z4) =>
       some (true, ())
   else
    some (false, ())
  else
   some (false, ())
 else
  some (false, ())
def ref10_pivots_b0 (s : (List (List UInt8)) × (Int) × (api_Span) × Unit) : Option (((List (List UInt8)) × (Int) × (api_Span) × Unit) ⊕ (((Bool) × Unit) ⊕ (Unit))) :=
 let t0 : Bool := (decide ((s.2.1 : Int) < ((List.length s.1) : Int)))
 bif t0 then
  bif (decide ((0 : Int) ≤ s.2.1) && decide ((s.2.1 : Int) < (List.length s.1 : Int))) then
   let t1 : List UInt8 := (List.getD s.1 (Int.toNat s.2.1) ([] : List UInt8))
   let t2 : Bool := (Op.bytesLess t1 s.2.2.1.1 || decide ((t1 : List UInt8) = s.2.2.1.1))
   bif (!t2) then
    let t3 : Bool := (!decide ((s.2.2.1.2.1 : List UInt8) = ([] : List UInt8)))
    bif t3 then
     bif (decide ((0 : Int) ≤ s.2.1) && decide ((s.2.1 : Int) < (List.length s.1 : Int))) then
      let t4 : List UInt8 := (List.getD s.1 (Int.toNat s.2.1) ([] : List UInt8))
      bif (!(!(Op.bytesLess t4 s.2.2.1.2.1))) then
       bif (decide ((s.2.1 : Int) > (0 : Int))) then
        bif (decide ((0 : Int) ≤ s.2.1) && decide ((s.2.1 : Int) < (List.length s.1 : Int))) then
         let t5 : List UInt8 := (List.getD s.1 (Int.toNat s.2.1) ([] : List UInt8))
         bif (decide ((0 : Int) ≤ (IntKind.i64.wrap (s.2.1 - (1 : Int)))) && decide (((IntKind.i64.wrap (s.2.1 - (1 : Int))) : Int) < (List.length s.1 : Int))) then
          let t6 : List UInt8 := (List.getD s.1 (Int.toNat (IntKind.i64.wrap (s.2.1 - (1 : Int)))) ([] : List UInt8))
          let t7 : Bool := (Op.bytesLess t5 t6 || decide ((t5 : List UInt8) = t6))
          bif t7 then
           some (.inr (.inl (false, ())))
          else
           some (.inl (s.1, (IntKind.i64.wrap (s.2.1 + (1 : Int))), s.2.2.1, ()))
         else
          none
        else
         none
       else
        some (.inl (s.1, (IntKind.i64.wrap (s.2.1 + (1 : Int))), s.2.2.1, ()))
      else
       some (.inr (.inl (false, ())))
     else
      none
    else
     bif (decide ((s.2.1 : Int) > (0 : Int))) then
      bif (decide ((0 : Int) ≤ s.2.1) && decide ((s.2.1 : Int) < (List.length s.1 : Int))) then
       let t4 : List UInt8 := (List.getD s.1 (Int.toNat s.2.1) ([] : List UInt8))
       bif (decide ((0 : Int) ≤ (IntKind.i64.wrap (s.2.1 - (1 : Int)))) && decide (((IntKind.i64.wrap (s.2.1 - (1 : Int))) : Int) < (List.length s.1 : Int))) then
        let t5 : List UInt8 := (List.getD s.1 (Int.toNat (IntKind.i64.wrap (s.2.1 - (1 : Int)))) ([] : List UInt8))
        let t6 : Bool := (Op.bytesLess t4 t5 || decide ((t4 : List UInt8) = t5))
        bif t6 then
         some (.inr (.inl (false, ())))
        else
         some (.inl (s.1, (IntKind.i64.wrap (s.2.1 + (1 : Int))), s.2.2.1, ()))
       else
        none
      else
       none
     else
      some (.inl (s.1, (IntKind.i64.wrap (s.2.1 + (1 : Int))), s.2.2.1, ()))
   else
    some (.inr (.inl (false, ())))
  else
   none
 else
  some (.inr (.inr (())))
def ref10_pivots_l0 (s : (List (List UInt8)) × (Int) × (api_Span) × Unit) : Option (((Bool) × Unit) ⊕ (Unit)) := loopO (ref10_pivots_b0) s
def ref10_pivots (s : (List (List UInt8)) × (api_Span) × Unit) : Option ((Bool) × Unit) :=
 match ref10_pivots_l0 (s.1, (0 : Int), s.2.1, ()) with
 | none => none
 | some (.inl z0) =>
  some (z0.1, ())
 | some (.inr z0) =>
  some (true, ())
def ref10_bound (s : quota_amount) : Option ((Bool) × Unit) :=
 bif (decide ((s.1.1 : Int) ≥ (0 : Int))) then
  bif (decide ((s.1.1 : Int) ≤ s.1.2.1)) then
   let t0 : Bool := (decide ((s.1.2.1 : Int) ≤ (1000000000000000 : Int)))
   some (t0, ())
  else
   some (false, ())
 else
  some (false, ())
def ref05_in (s : api_Shape) : Option ((Bool) × Unit) :=
 bif (decide ((s.1 : Int) ≥ s.2.1)) then
  some ((decide ((s.1 : Int) ≤ s.2.2.1)), ())
 else
  some (false, ())
def ref02_Empty (s : (api_Span) × Unit) : Option ((Bool) × Unit) :=
 let t0 : Bool := (!decide ((s.1.2.1 : List UInt8) = ([] : List UInt8)))
 bif t0 then
  let t1 : Bool := (Op.bytesLess s.1.2.1 s.1.1 || decide ((s.1.2.1 : List UInt8) = s.1.1))
  some (t1, ())
 else
  some (false, ())
def ref05_span (s : (api_Span) × Unit) : Option ((Bool) × Unit) :=
 match ref02_Empty (s.1, ()) with
 | none => none
 | some r0 =>
  bif (!r0.1) then
   let t1 : Bool := (decide ((((List.length s.1.1) : Int) : Int) ≤ (65535 : Int)))
   bif t1 then
    let t2 : Bool := (decide ((((List.length s.1.2.1) : Int) : Int) ≤ (65535 : Int)))
    some (t2, ())
   else
    some (false, ())
  else
   some (false, ())
def ref02_Begins (s : api_Span) : Option ((Bool) × Unit) :=
 let t0 : Bool := (decide ((((List.length s.1) : Int) : Int) ≥ ((List.length s.2.1) : Int)))
 bif t0 then
  bif (decide (((0 : Int) : Int) ≤ ((List.length s.2.1) : Int)) && decide ((((List.length s.2.1) : Int) : Int) ≤ (List.length s.1 : Int))) then
   let t1 : List UInt8 := (List.drop 0 (List.take (Int.toNat ((List.length s.2.1) : Int)) s.1))
   some ((decide ((t1 : List UInt8) = s.2.1)), ())
  else
   none
 else
  some (false, ())
def ref05_Valid_j1 (s : (Bool) × (api_Msg) × Unit) : Option ((Bool) × Unit) :=
 bif s.1 then
  match ref05_in (((List.length s.2.1.2.2.2.2.1) : Int), (1 : Int), (200 : Int), ()) with
  | none => none
  | some r0 =>
   bif r0.1 then
    match ref05_in (((List.length s.2.1.2.2.2.2.2.1) : Int), (1 : Int), (200 : Int), ()) with
    | none => none
    | some r1 =>
     bif r1.1 then
      let t2 : Bool := (Ty.eqb tapi_Msg s.2.1 (s.2.1.1, (([] : List UInt8), (([] : List UInt8), ((([] : List UInt8), (([] : List UInt8), ())), (s.2.1.2.2.2.2.1, (s.2.1.2.2.2.2.2.1, ((0 : Int), ()))))))))
      some (t2, ())
     else
      some (false, ())
   else
    some (false, ())
 else
  some (false, ())
def ref05_Valid_j0 (s : (Bool) × (Int) × (Bool) × (api_Msg) × Unit) : Option ((Bool) × Unit) :=
 bif s.2.2.1 then
  match ref02_Begins (s.2.2.2.1.2.2.2.2.1, s.2.2.2.1.2.2.2.2.2.1, ()) with
  | none => none
  | some r0 =>
   bif (!r0.1) then
    match ref02_Begins (s.2.2.2.1.2.2.2.2.2.1, s.2.2.2.1.2.2.2.2.1, ()) with
    | none => none
    | some r1 =>
     ref05_Valid_j1 ((!r1.1), s.2.2.2.1, ())
   else
    ref05_Valid_j1 (false, s.2.2.2.1, ())
 else
  bif (decide ((s.2.1 : Int) = (6 : Int))) then
   match ref05_span (s.2.2.2.1.2.2.2.1, ()) with
   | none => none
   | some r0 =>
    bif r0.1 then
     bif s.1 then
      let t1 : Bool := (Ty.eqb tapi_Msg s.2.2.2.1 (s.2.2.2.1.1, (([] : List UInt8), (([] : List UInt8), (s.2.2.2.1.2.2.2.1, (([] : List UInt8), (([] : List UInt8), (s.2.2.2.1.2.2.2.2.2.2.1, ()))))))))
      some (t1, ())
     else
      some (false, ())
    else
     some (false, ())
  else
   some (false, ())

def ref05_Valid (s : (api_Msg) × Unit) : Option ((Bool) × Unit) :=
 match ref05_in (((List.length s.1.2.1) : Int), (1 : Int), (65535 : Int), ()) with
 | none => none
 | some r0 =>
  match ref05_in (s.1.2.2.2.2.2.2.1, (0 : Int), (1000000000 : Int), ()) with
  | none => none
  | some r1 =>
   bif (decide ((s.1.1 : Int) = (1 : Int))) then
    bif r0.1 then
     let t2 : Bool := (decide ((((List.length s.1.2.2.1) : Int) : Int) ≤ (64 : Int)))
     bif t2 then
      bif r1.1 then
       let t3 : Bool := (Ty.eqb tapi_Msg s.1 (s.1.1, (s.1.2.1, (s.1.2.2.1, ((([] : List UInt8), (([] : List UInt8), ())), (([] : List UInt8), (([] : List UInt8), (s.1.2.2.2.2.2.2.1, ()))))))))
       some (t3, ())
      else
       some (false, ())
     else
      some (false, ())
    else
     some (false, ())
   else
    bif (decide ((s.1.1 : Int) = (2 : Int))) then
     bif r0.1 then
      let t2 : Bool := (Ty.eqb tapi_Msg s.1 (s.1.1, (s.1.2.1, (([] : List UInt8), ((([] : List UInt8), (([] : List UInt8), ())), (([] : List UInt8), (([] : List UInt8), ((0 : Int), ()))))))))
      some (t2, ())
     else
      some (false, ())
    else
     bif (decide ((s.1.1 : Int) = (3 : Int))) then
      match ref05_span (s.1.2.2.2.1, ()) with
      | none => none
      | some r2 =>
       bif r2.1 then
        let t3 : Bool := (Ty.eqb tapi_Msg s.1 (s.1.1, (([] : List UInt8), (([] : List UInt8), (s.1.2.2.2.1, (([] : List UInt8), (([] : List UInt8), ((0 : Int), ()))))))))
        some (t3, ())
       else
        some (false, ())
     else
      bif (decide ((s.1.1 : Int) = (4 : Int))) then
       ref05_Valid_j0 (r1.1, s.1.1, true, s.1, ())
      else
       ref05_Valid_j0 (r1.1, s.1.1, (decide ((s.1.1 : Int) = (5 : Int))), s.1, ())
def ref02_Prefix_b0 (s : (List UInt8) × (Int) × (List UInt8) × (List UInt8) × Unit) : Option (((List UInt8) × (Int) × (List UInt8) × (List UInt8) × Unit) ⊕ (((List UInt8) × (Int) × (List UInt8) × (List UInt8) × Unit) ⊕ (Unit))) :=
 bif (decide ((s.2.1 : Int) > (0 : Int))) then
  bif (decide ((0 : Int) ≤ (IntKind.i64.wrap (s.2.1 - (1 : Int)))) && decide (((IntKind.i64.wrap (s.2.1 - (1 : Int))) : Int) < (List.length s.1 : Int))) then
   let t0 : Int := ((List.getD s.1 (Int.toNat (IntKind.i64.wrap (s.2.1 - (1 : Int)))) 0).toNat : Int)
   bif (decide ((t0 : Int) = (255 : Int))) then
    some (.inl (s.1, (IntKind.i64.wrap (s.2.1 - (1 : Int))), s.2.2.1, s.2.2.2.1, ()))
   else
    some (.inr (.inl (s.1, s.2.1, s.2.2.1, s.2.2.2.1, ())))
  else
   none
 else
  some (.inr (.inl (s.1, s.2.1, s.2.2.1, s.2.2.2.1, ())))
def ref02_Prefix_l0 (s : (List UInt8) × (Int) × (List UInt8) × (List UInt8) × Unit) : Option (((List UInt8) × (Int) × (List UInt8) × (List UInt8) × Unit) ⊕ (Unit)) := loopO (ref02_Prefix_b0) s
def ref02_Prefix (s : (List UInt8) × Unit) : Option ((api_Span) × Unit) :=
 match ref02_Prefix_l0 (s.1, ((List.length s.1) : Int), ([] : List UInt8), ([] : List UInt8), ()) with
 | none => none
 | some (.inl z0) =>
  bif (decide ((z0.2.1 : Int) = (0 : Int))) then
   some ((z0.1, (([] : List UInt8), ())), ())
  else
   bif (decide (((0 : Int) : Int) ≤ (IntKind.i64.wrap (z0.2.1 - (1 : Int)))) && decide (((IntKind.i64.wrap (z0.2.1 - (1 : Int))) : Int) ≤ (List.length z0.1 : Int))) then
    let t1 : List UInt8 := (List.drop 0 (List.take (Int.toNat (IntKind.i64.wrap (z0.2.1 - (1 : Int)))) z0.1))
    bif (decide ((0 : Int) ≤ (IntKind.i64.wrap (z0.2.1 - (1 : Int)))) && decide (((IntKind.i64.wrap (z0.2.1 - (1 : Int))) : Int) < (List.length z0.1 : Int))) then
     let t2 : Int := ((List.getD z0.1 (Int.toNat (IntKind.i64.wrap (z0.2.1 - (1 : Int)))) 0).toNat : Int)
     let t3 : List UInt8 := (sOfBytes ([(IntKind.u8.wrap (t2 + (1 : Int)))] : List (Int)))
     bif (decide (List.length t1 + List.length t3 ≤ roomMax)) then
      some ((z0.1, ((t1 ++ t3), ())), ())
     else
      none
    else
     none
   else
    none
 | some (.inr z0) =>
  none
def ref05_Reads_j0 (s : (Int) × (Bool) × (api_Msg) × Unit) : Option ((List (api_Span)) × Unit) :=
 bif s.2.1 then
  match ref02_Prefix (s.2.2.1.2.2.2.2.1, ()) with
  | none => none
  | some r0 =>
   some (([r0.1] : List (api_Span)), ())
 else
  bif (decide ((s.1 : Int) = (6 : Int))) then
   some (([s.2.2.1.2.2.2.1] : List (api_Span)), ())
  else
   some (([] : List (api_Span)), ())

def ref05_Reads (s : (api_Msg) × Unit) : Option ((List (api_Span)) × Unit) :=
 bif (decide ((s.1.1 : Int) = (4 : Int))) then
  ref05_Reads_j0 (s.1.1, true, s.1, ())
 else
  ref05_Reads_j0 (s.1.1, (decide ((s.1.1 : Int) = (5 : Int))), s.1, ())
def ref02_One (s : (List UInt8) × Unit) : Option ((api_Span) × Unit) :=
 bif (decide (List.length s.1 + List.length ([0] : List UInt8) ≤ roomMax)) then
  some ((s.1, ((s.1 ++ ([0] : List UInt8)), ())), ())
 else
  none
def ref05_Writes_j0 (s : (Int) × (Bool) × (api_Msg) × Unit) : Option ((List (api_Span)) × Unit) :=
 bif s.2.1 then
  match ref02_One (s.2.2.1.2.1, ()) with
  | none => none
  | some r0 =>
   some (([r0.1] : List (api_Span)), ())
 else
  bif (decide ((s.1 : Int) = (4 : Int))) then
   match ref02_Prefix (s.2.2.1.2.2.2.2.1, ()) with
   | none => none
   | some r0 =>
    match ref02_Prefix (s.2.2.1.2.2.2.2.2.1, ()) with
    | none => none
    | some r1 =>
     some (([r0.1, r1.1] : List (api_Span)), ())
  else
   bif (decide ((s.1 : Int) = (5 : Int))) then
    match ref02_Prefix (s.2.2.1.2.2.2.2.2.1, ()) with
    | none => none
    | some r0 =>
     some (([r0.1] : List (api_Span)), ())
   else
    some (([s.2.2.1.2.2.2.1] : List (api_Span)), ())

def ref05_Writes (s : (api_Msg) × Unit) : Option ((List (api_Span)) × Unit) :=
 bif (decide ((s.1.1 : Int) = (1 : Int))) then
  ref05_Writes_j0 (s.1.1, true, s.1, ())
 else
  ref05_Writes_j0 (s.1.1, (decide ((s.1.1 : Int) = (2 : Int))), s.1, ())
def ref02_Less (s : api_Span) : Option ((Bool) × Unit) :=
 let t0 : Bool := (!decide ((s.1 : List UInt8) = ([] : List UInt8)))
 bif t0 then
  let t1 : Bool := (decide ((s.2.1 : List UInt8) = ([] : List UInt8)))
  bif (!t1) then
   some ((Op.bytesLess s.1 s.2.1), ())
  else
   some (true, ())
 else
  some (false, ())
def ref02_Covers (s : (api_Span) × (api_Span) × Unit) : Option ((Bool) × Unit) :=
 match ref02_Empty (s.2.1, ()) with
 | none => none
 | some r0 =>
  bif (!r0.1) then
   match ref02_Empty (s.1, ()) with
   | none => none
   | some r1 =>
    bif (!r1.1) then
     let t2 : Bool := (Op.bytesLess s.1.1 s.2.1.1 || decide ((s.1.1 : List UInt8) = s.2.1.1))
     bif t2 then
      match ref02_Less (s.1.2.1, s.2.1.2.1, ()) with
      | none => none
      | some r3 =>
       some ((!r3.1), ())
     else
      some (false, ())
    else
     some (false, ())
  else
   some (true, ())
def ref10_Inside_b0 (s : (Int) × (api_Span) × (List (api_Span)) × Unit) : Option (((Int) × (api_Span) × (List (api_Span)) × Unit) ⊕ (((Bool) × Unit) ⊕ (Unit))) :=
 let t0 : Bool := (decide ((s.1 : Int) < ((List.length s.2.2.1) : Int)))
 bif t0 then
  bif (decide ((0 : Int) ≤ s.1) && decide ((s.1 : Int) < (List.length s.2.2.1 : Int))) then
   let t1 : api_Span := (List.getD s.2.2.1 (Int.toNat s.1) (([] : List UInt8), (([] : List UInt8), ())))
   match ref02_Covers (s.2.1, t1, ()) with
   | none => none
   | some r2 =>
    bif (!r2.1) then
     some (.inr (.inl (false, ())))
    else
     some (.inl ((IntKind.i64.wrap (s.1 + (1 : Int))), s.2.1, s.2.2.1, ()))
  else
   none
 else
  some (.inr (.inr (())))
def ref10_Inside_l0 (s : (Int) × (api_Span) × (List (api_Span)) × Unit) : Option (((Bool) × Unit) ⊕ (Unit)) := loopO (ref10_Inside_b0) s
def ref10_Inside (s : (api_Msg) × (api_Span) × Unit) : Option ((Bool) × Unit) :=
 match ref05_Reads (s.1, ()) with
 | none => none
 | some r0 =>
  match ref05_Writes (s.1, ()) with
  | none => none
  | some r1 =>
   bif (decide ((List.length r0.1 + List.length r1.1) * 32 ≤ roomMax)) then
    match ref10_Inside_l0 ((0 : Int), s.2.1, (r0.1 ++ r1.1), ()) with
    | none => none
    | some (.inl z2) =>
     some (z2.1, ())
    | some (.inr z2) =>
     some (true, ())
   else
    none
def ref10_Valid_b0 (s : (Int) × (api_Node) × (api_Span) × Unit) : Option (((Int) × (api_Node) × (api_Span) × Unit) ⊕ (((Bool) × Unit) ⊕ ((api_Node) × (api_Span) × Unit))) :=
 let t0 : Bool := (decide ((s.1 : Int) < ((List.length s.2.1.2.2.1) : Int)))
 bif t0 then
  bif (decide ((0 : Int) ≤ s.1) && decide ((s.1 : Int) < (List.length s.2.1.2.2.1 : Int))) then
   let t1 : Int := (List.getD s.2.1.2.2.1 (Int.toNat s.1) (0 : Int))
   match ref10_in (t1, (0 : Int), (4095 : Int), ()) with
   | none => none
   | some r2 =>
    bif (!(!r2.1)) then
     bif (decide ((0 : Int) ≤ s.1) && decide ((s.1 : Int) < (List.length s.2.1.2.2.2.1 : Int))) then
      let t3 : api_Sum := (List.getD s.2.1.2.2.2.1 (Int.toNat s.1) (((0 : Int), ((0 : Int), ())), (((0 : Int), ((0 : Int), ())), ())))
      match ref10_bound (t3.1, ()) with
      | none => none
      | some r4 =>
       bif (!(!r4.1)) then
        bif (decide ((0 : Int) ≤ s.1) && decide ((s.1 : Int) < (List.length s.2.1.2.2.2.1 : Int))) then
         let t5 : api_Sum := (List.getD s.2.1.2.2.2.1 (Int.toNat s.1) (((0 : Int), ((0 : Int), ())), (((0 : Int), ((0 : Int), ())), ())))
         match ref10_bound (t5.2.1, ()) with
         | none => none
         | some r6 =>
          bif (!r6.1) then
           some (.inr (.inl (false, ())))
          else
           some (.inl ((IntKind.i64.wrap (s.1 + (1 : Int))), s.2.1, s.2.2.1, ()))
        else
         none
       else
        some (.inr (.inl (false, ())))
     else
      none
    else
     some (.inr (.inl (false, ())))
  else
   none
 else
  some (.inr (.inr (s.2.1, s.2.2.1, ())))
def ref10_Valid_l0 (s : (Int) × (api_Node) × (api_Span) × Unit) : Option (((Bool) × Unit) ⊕ ((api_Node) × (api_Span) × Unit)) := loopO (ref10_Valid_b0) s
def ref10_Valid_b1 (s : (Int) × (api_Node) × (api_Span) × Unit) : Option (((Int) × (api_Node) × (api_Span) × Unit) ⊕ (((Bool) × Unit) ⊕ (Unit))) :=
 let t0 : Bool := (decide ((s.1 : Int) < ((List.length s.2.1.2.2.2.2.1) : Int)))
 bif t0 then
  bif (decide ((0 : Int) ≤ s.1) && decide ((s.1 : Int) < (List.length s.2.1.2.2.2.2.1 : Int))) then
   let t1 : api_Msg := (List.getD s.2.1.2.2.2.2.1 (Int.toNat s.1) ((0 : Int), (([] : List UInt8), (([] : List UInt8), ((([] : List UInt8), (([] : List UInt8), ())), (([] : List UInt8), (([] : List UInt8), ((0 : Int), ()))))))))
   match ref05_Valid (t1, ()) with
   | none => none
   | some r2 =>
    bif (!(!r2.1)) then
     bif (decide ((0 : Int) ≤ s.1) && decide ((s.1 : Int) < (List.length s.2.1.2.2.2.2.1 : Int))) then
      let t3 : api_Msg := (List.getD s.2.1.2.2.2.2.1 (Int.toNat s.1) ((0 : Int), (([] : List UInt8), (([] : List UInt8), ((([] : List UInt8), (([] : List UInt8), ())), (([] : List UInt8), (([] : List UInt8), ((0 : Int), ()))))))))
      match ref10_Inside (t3, s.2.2.1, ()) with
      | none => none
      | some r4 =>
       bif (!r4.1) then
        some (.inr (.inl (false, ())))
       else
        some (.inl ((IntKind.i64.wrap (s.1 + (1 : Int))), s.2.1, s.2.2.1, ()))
     else
      none
    else
     some (.inr (.inl (false, ())))
  else
   none
 else
  some (.inr (.inr (())))
def ref10_Valid_l1 (s : (Int) × (api_Node) × (api_Span) × Unit) : Option (((Bool) × Unit) ⊕ (Unit)) := loopO (ref10_Valid_b1) s
def ref10_Valid_j0 (s : (Bool) × (api_Node) × (api_Span) × Unit) : Option ((Bool) × Unit) :=
 bif s.1 then
  some (false, ())
 else
  match ref10_Valid_l0 ((0 : Int), s.2.1, s.2.2.1, ()) with
  | none => none
  | some (.inl z0) =>
   some (z0.1, ())
  | some (.inr z0) =>
   match ref10_Valid_l1 ((0 : Int), z0.1, z0.2.1, ()) with
   | none => none
   | some (.inl z1) =>
    some (z1.1, ())
   | some (.inr z1) =>
    some (true, ())

def ref10_Valid (s : (api_Node) × (api_Span) × Unit) : Option ((Bool) × Unit) :=
 let t0 : Bool := (decide ((((List.length s.1.2.2.1) : Int) : Int) = (0 : Int)))
 bif t0 then
  match ref10_leaf (s.1, s.2.1, ()) with
  | none => none
  | some r1 =>
   some (r1.1, ())
 else
  let t1 : Bool := (decide ((((List.length s.1.1) : Int) : Int) > (0 : Int)))
  bif (!t1) then
   let t2 : Bool := (!decide ((((List.length s.1.2.2.2.1) : Int) : Int) = ((List.length s.1.2.2.1) : Int)))
   bif (!t2) then
    let t3 : Int := (IntKind.i64.wrap (((List.length s.1.2.2.1) : Int) - (1 : Int)))
    let t4 : Bool := (!decide ((((List.length s.1.2.1) : Int) : Int) = t3))
    bif (!t4) then
     match ref10_pivots (s.1.2.1, s.2.1, ()) with
     | none => none
     | some r5 =>
      ref10_Valid_j0 ((!r5.1), s.1, s.2.1, ())
    else
     ref10_Valid_j0 (true, s.1, s.2.1, ())
   else
    ref10_Valid_j0 (true, s.1, s.2.1, ())
  else
   ref10_Valid_j0 (true, s.1, s.2.1, ())
def ref02_None (s : Unit) : Option ((api_Span) × Unit) :=
 some ((([97] : List UInt8), (([97] : List UInt8), ())), ())
def ref02_Meet_j0 (s : (List UInt8) × (List UInt8) × (List UInt8) × (List UInt8) × Unit) : Option ((api_Span) × Unit) :=
 match ref02_Empty ((s.2.2.1, (s.2.2.2.1, ())), ()) with
 | none => none
 | some r0 =>
  bif r0.1 then
   match ref02_None (()) with
   | none => none
   | some r1 =>
    some (r1.1, ())
  else
   some ((s.2.2.1, (s.2.2.2.1, ())), ())

def ref02_Meet (s : (api_Span) × (api_Span) × Unit) : Option ((api_Span) × Unit) :=
 let t0 : List UInt8 := (bif !(Op.bytesLess s.1.1 s.2.1.1) then s.1.1 else s.2.1.1)
 match ref02_Less (s.2.1.2.1, s.1.2.1, ()) with
 | none => none
 | some r1 =>
  bif r1.1 then
   ref02_Meet_j0 (([] : List UInt8), ([] : List UInt8), t0, s.2.1.2.1, ())
  else
   ref02_Meet_j0 (([] : List UInt8), ([] : List UInt8), t0, s.1.2.1, ())
def ref02_Parts_b0 (s : (List (List UInt8)) × (List UInt8) × (Int) × (api_Span) × (List (api_Span)) × Unit) : Option (((List (List UInt8)) × (List UInt8) × (Int) × (api_Span) × (List (api_Span)) × Unit) ⊕ (((List UInt8) × (api_Span) × (List (api_Span)) × Unit) ⊕ (Unit))) :=
 let t0 : Bool := (decide ((s.2.2.1 : Int) < ((List.length s.1) : Int)))
 bif t0 then
  bif (decide ((0 : Int) ≤ s.2.2.1) && decide ((s.2.2.1 : Int) < (List.length s.1 : Int))) then
   let t1 : List UInt8 := (List.getD s.1 (Int.toNat s.2.2.1) ([] : List UInt8))
   match ref02_Meet (s.2.2.2.1, (s.2.1, (t1, ())), ()) with
   | none => none
   | some r2 =>
    bif (decide ((List.length s.2.2.2.2.1 + List.length ([r2.1] : List (api_Span))) * 32 ≤ roomMax)) then
     let t3 : List (api_Span) := (s.2.2.2.2.1 ++ ([r2.1] : List (api_Span)))
     bif (decide ((0 : Int) ≤ s.2.2.1) && decide ((s.2.2.1 : Int) < (List.length s.1 : Int))) then
      let t4 : List UInt8 := (List.getD s.1 (Int.toNat s.2.2.1) ([] : List UInt8))
      some (.inl (s.1, t4, (IntKind.i64.wrap (s.2.2.1 + (1 : Int))), s.2.2.2.1, t3, ()))
     else
      none
    else
     none
  else
   none
 else
  some (.inr (.inl (s.2.1, s.2.2.2.1, s.2.2.2.2.1, ())))
def ref02_Parts_l0 (s : (List (List UInt8)) × (List UInt8) × (Int) × (api_Span) × (List (api_Span)) × Unit) : Option (((List UInt8) × (api_Span) × (List (api_Span)) × Unit) ⊕ (Unit)) := loopO (ref02_Parts_b0) s
def ref02_Parts (s : (api_Span) × (List (List UInt8)) × Unit) : Option ((List (api_Span)) × Unit) :=
 match ref02_Parts_l0 (s.2.1, ([] : List UInt8), (0 : Int), s.1, ([] : List (api_Span)), ()) with
 | none => none
 | some (.inl z0) =>
  match ref02_Meet (z0.2.1, (z0.1, (([] : List UInt8), ())), ()) with
  | none => none
  | some r1 =>
   bif (decide ((List.length z0.2.2.1 + List.length ([r1.1] : List (api_Span))) * 32 ≤ roomMax)) then
    let t2 : List (api_Span) := (z0.2.2.1 ++ ([r1.1] : List (api_Span)))
    some (t2, ())
   else
    none
 | some (.inr z0) =>
  none
def ref10_Spans (s : (api_Node) × (api_Span) × Unit) : Option ((List (api_Span)) × Unit) :=
 let t0 : Bool := (decide ((((List.length s.1.2.2.1) : Int) : Int) = (0 : Int)))
 bif t0 then
  some (([] : List (api_Span)), ())
 else
  match ref02_Parts (s.2.1, s.1.2.1, ()) with
  | none => none
  | some r1 =>
   some (r1.1, ())
def ref10_Plus (s : (api_Sum) × (api_Sum) × Unit) : Option (bound_bounds) :=
 let t0 : Int := (if ((IntKind.i64.wrap (s.1.1.1 + s.2.1.1.1)) : Int) < (1000000000000000 : Int) then (IntKind.i64.wrap (s.1.1.1 + s.2.1.1.1)) else (1000000000000000 : Int))
 let t1 : Int := (IntKind.i64.wrap (s.1.1.2.1 + s.2.1.1.2.1))
 let t2 : Int := (if (t1 : Int) < (1000000000000000 : Int) then t1 else (1000000000000000 : Int))
 let t3 : Int := (IntKind.i64.wrap (s.1.2.1.1 + s.2.1.2.1.1))
 let t4 : Int := (if (t3 : Int) < (1000000000000000 : Int) then t3 else (1000000000000000 : Int))
 let t5 : Int := (IntKind.i64.wrap (s.1.2.1.2.1 + s.2.1.2.1.2.1))
 let t6 : Int := (if (t5 : Int) < (1000000000000000 : Int) then t5 else (1000000000000000 : Int))
 some (((t0, (t2, ())), ((t4, (t6, ())), ())), ())
def ref01_guess_j2 (s : (List UInt8) × (Int) × (Bool) × (List UInt8) × (Int) × (Int) × (List UInt8) × (List UInt8) × (Int) × (Int) × (List UInt8) × Unit) : Option ((api_Place) × Unit) :=
 bif s.2.2.1 then
  bif (decide (((1 : Int) : Int) ≤ s.2.1) && decide ((s.2.1 : Int) ≤ (List.length s.1 : Int))) then
   let t0 : List UInt8 := (List.drop (Int.toNat (1 : Int)) (List.take (Int.toNat s.2.1) s.1))
   some ((t0, ((4 : Int), (s.2.2.2.2.2.2.2.2.2.1, (s.2.2.2.2.2.2.2.2.2.2.1, ())))), ())
  else
   none
 else
  some ((s.2.2.2.2.2.2.2.1, (s.2.2.2.2.2.2.2.2.1, (s.2.2.2.2.2.2.2.2.2.1, (s.2.2.2.2.2.2.2.2.2.2.1, ())))), ())
def ref01_guess_j1 (s : (List UInt8) × (Int) × (List UInt8) × (Int) × (Int) × (List UInt8) × (List UInt8) × (Int) × (Int) × (List UInt8) × Unit) : Option ((api_Place) × Unit) :=
 let t0 : Bool := (decide ((s.2.2.2.2.2.2.2.1 : Int) = (1 : Int)))
 bif t0 then
  bif (decide ((s.2.1 : Int) > (0 : Int))) then
   bif (decide (((0 : Int) : Int) < (List.length s.1 : Int))) then
    let t1 : Bool := (decide ((((List.getD s.1 0 0).toNat : Int) : Int) = (6 : Int)))
    ref01_guess_j2 (s.1, s.2.1, t1, s.2.2.1, s.2.2.2.1, s.2.2.2.2.1, s.2.2.2.2.2.1, s.2.2.2.2.2.2.1, s.2.2.2.2.2.2.2.1, s.2.2.2.2.2.2.2.2.1, s.2.2.2.2.2.2.2.2.2.1, ())
   else
    none
  else
   ref01_guess_j2 (s.1, s.2.1, false, s.2.2.1, s.2.2.2.1, s.2.2.2.2.1, s.2.2.2.2.2.1, s.2.2.2.2.2.2.1, s.2.2.2.2.2.2.2.1, s.2.2.2.2.2.2.2.2.1, s.2.2.2.2.2.2.2.2.2.1, ())
 else
  ref01_guess_j2 (s.1, s.2.1, false, s.2.2.1, s.2.2.2.1, s.2.2.2.2.1, s.2.2.2.2.2.1, s.2.2.2.2.2.2.1, s.2.2.2.2.2.2.2.1, s.2.2.2.2.2.2.2.2.1, s.2.2.2.2.2.2.2.2.2.1, ())
def ref01_guess_j0 (s : (List UInt8) × (Int) × (List UInt8) × (List UInt8) × (Int) × (Int) × (List UInt8) × (List UInt8) × (Int) × (Int) × (List UInt8) × Unit) : Option ((api_Place) × Unit) :=
 let t0 : Bool := (decide ((s.2.2.2.2.2.2.2.2.1 : Int) = (3 : Int)))
 bif t0 then
  ref01_guess_j1 (s.1, s.2.1, s.2.2.2.1, s.2.2.2.2.1, s.2.2.2.2.2.1, s.2.2.2.2.2.2.1, s.2.2.2.2.2.2.2.1, s.2.2.2.2.2.2.2.2.1, s.2.2.2.2.2.2.2.2.2.1, s.2.2.1, ())
 else
  ref01_guess_j1 (s.1, s.2.1, s.2.2.2.1, s.2.2.2.2.1, s.2.2.2.2.2.1, s.2.2.2.2.2.2.1, s.2.2.2.2.2.2.2.1, s.2.2.2.2.2.2.2.2.1, s.2.2.2.2.2.2.2.2.2.1, s.2.2.2.2.2.2.2.2.2.2.1, ())
def ref01_guess_j3 (s : (List UInt8) × (Int) × (List UInt8) × (Bool) × (List UInt8) × (Int) × (Int) × (List UInt8) × (List UInt8) × (Int) × (Int) × (List UInt8) × Unit) : Option ((api_Place) × Unit) :=
 bif s.2.2.2.1 then
  bif (decide (((0 : Int) : Int) < (List.length s.2.2.1 : Int))) then
   let t0 : Int := (IntKind.i64.wrap ((List.getD s.2.2.1 0 0).toNat : Int))
   bif (decide (((1 : Int) : Int) < (List.length s.2.2.1 : Int))) then
    let t1 : Int := ((List.getD s.2.2.1 (Int.toNat (1 : Int)) 0).toNat : Int)
    let t2 : Int := (IntKind.i64.wrap ((IntKind.i64.wrap ((256 : Int) * t0)) + (IntKind.i64.wrap t1)))
    ref01_guess_j0 (s.1, s.2.1, s.2.2.1, s.2.2.2.2.1, s.2.2.2.2.2.1, s.2.2.2.2.2.2.1, s.2.2.2.2.2.2.2.1, s.2.2.2.2.2.2.2.2.1, s.2.2.2.2.2.2.2.2.2.1, t2, s.2.2.2.2.2.2.2.2.2.2.2.1, ())
   else
    none
  else
   none
 else
  ref01_guess_j0 (s.1, s.2.1, s.2.2.1, s.2.2.2.2.1, s.2.2.2.2.2.1, s.2.2.2.2.2.2.1, s.2.2.2.2.2.2.2.1, s.2.2.2.2.2.2.2.2.1, s.2.2.2.2.2.2.2.2.2.1, s.2.2.2.2.2.2.2.2.2.2.1, s.2.2.2.2.2.2.2.2.2.2.2.1, ())

def ref01_guess (s : runtime_errorAddressString) : Option ((api_Place) × Unit) :=
 bif (decide (((0 : Int) : Int) ≤ s.2.1) && decide ((s.2.1 : Int) ≤ (List.length s.1 : Int))) then
  let t0 : List UInt8 := (List.drop 0 (List.take (Int.toNat s.2.1) s.1))
  bif (decide ((0 : Int) ≤ s.2.1) && decide ((s.2.1 : Int) < (List.length s.1 : Int))) then
   let t1 : Int := ((List.getD s.1 (Int.toNat s.2.1) 0).toNat : Int)
   bif (decide ((0 : Int) ≤ (IntKind.i64.wrap (s.2.1 + (1 : Int)))) && decide (((IntKind.i64.wrap (s.2.1 + (1 : Int))) : Int) ≤ (List.length s.1 : Int)) && decide (((List.length s.1 : Int) : Int) ≤ (List.length s.1 : Int))) then
    let t2 : List UInt8 := (List.drop (Int.toNat (IntKind.i64.wrap (s.2.1 + (1 : Int)))) (List.take (Int.toNat (List.length s.1 : Int)) s.1))
    let t3 : Bool := (decide (((IntKind.i64.wrap t1) : Int) = (2 : Int)))
    bif t3 then
     let t4 : Bool := (decide ((((List.length t2) : Int) : Int) = (2 : Int)))
     ref01_guess_j3 (s.1, s.2.1, t2, t4, ([] : List UInt8), (0 : Int), (0 : Int), ([] : List UInt8), t0, (IntKind.i64.wrap t1), (0 : Int), ([] : List UInt8), ())
    else
     ref01_guess_j3 (s.1, s.2.1, t2, false, ([] : List UInt8), (0 : Int), (0 : Int), ([] : List UInt8), t0, (IntKind.i64.wrap t1), (0 : Int), ([] : List UInt8), ())
   else
    none
  else
   none
 else
  none
def ref01_Names_b0 (s : (List UInt8) × (List UInt8) × (Int) × (List (List UInt8)) × Unit) : Option (((List UInt8) × (List UInt8) × (Int) × (List (List UInt8)) × Unit) ⊕ (((List UInt8) × (List (List UInt8)) × Unit) ⊕ (Unit))) :=
 let t0 : Bool := (decide ((s.2.2.1 : Int) < ((List.length s.1) : Int)))
 bif t0 then
  bif (decide ((0 : Int) ≤ s.2.2.1) && decide ((s.2.2.1 : Int) < (List.length s.1 : Int))) then
   let t1 : Int := ((List.getD s.1 (Int.toNat s.2.2.1) 0).toNat : Int)
   bif (decide ((t1 : Int) = (47 : Int))) then
    bif (decide ((List.length s.2.2.2.1 + List.length ([s.2.1] : List (List UInt8))) * 16 ≤ roomMax)) then
     let t2 : List (List UInt8) := (s.2.2.2.1 ++ ([s.2.1] : List (List UInt8)))
     some (.inl (s.1, ([] : List UInt8), (IntKind.i64.wrap (s.2.2.1 + (1 : Int))), t2, ()))
    else
     none
   else
    bif (decide ((0 : Int) ≤ s.2.2.1) && decide ((s.2.2.1 : Int) ≤ (IntKind.i64.wrap (s.2.2.1 + (1 : Int)))) && decide (((IntKind.i64.wrap (s.2.2.1 + (1 : Int))) : Int) ≤ (List.length s.1 : Int))) then
     let t2 : List UInt8 := (List.drop (Int.toNat s.2.2.1) (List.take (Int.toNat (IntKind.i64.wrap (s.2.2.1 + (1 : Int)))) s.1))
     bif (decide (List.length s.2.1 + List.length t2 ≤ roomMax)) then
      some (.inl (s.1, (s.2.1 ++ t2), (IntKind.i64.wrap (s.2.2.1 + (1 : Int))), s.2.2.2.1, ()))
     else
      none
    else
     none
  else
   none
 else
  some (.inr (.inl (s.2.1, s.2.2.2.1, ())))
def ref01_Names_l0 (s : (List UInt8) × (List UInt8) × (Int) × (List (List UInt8)) × Unit) : Option (((List UInt8) × (List (List UInt8)) × Unit) ⊕ (Unit)) := loopO (ref01_Names_b0) s
def ref01_Names (s : (List UInt8) × Unit) : Option ((Bool) × (List (List UInt8)) × Unit) :=
 match ref01_Names_l0 (s.1, ([] : List UInt8), (0 : Int), ([] : List (List UInt8)), ()) with
 | none => none
 | some (.inl z0) =>
  let t1 : Bool := (decide ((z0.1 : List UInt8) = ([] : List UInt8)))
  some (t1, z0.2.1, ())
 | some (.inr z0) =>
  none
def ref01_Name_b0 (s : runtime_errorAddressString) : Option ((runtime_errorAddressString) ⊕ (((Bool) × Unit) ⊕ (Unit))) :=
 let t0 : Bool := (decide ((s.2.1 : Int) < ((List.length s.1) : Int)))
 bif t0 then
  bif (decide ((0 : Int) ≤ s.2.1) && decide ((s.2.1 : Int) < (List.length s.1 : Int))) then
   let t1 : Int := ((List.getD s.1 (Int.toNat s.2.1) 0).toNat : Int)
   bif (!(decide ((t1 : Int) < (33 : Int)))) then
    bif (decide ((0 : Int) ≤ s.2.1) && decide ((s.2.1 : Int) < (List.length s.1 : Int))) then
     let t2 : Int := ((List.getD s.1 (Int.toNat s.2.1) 0).toNat : Int)
     bif (!(decide ((t2 : Int) > (126 : Int)))) then
      bif (decide ((0 : Int) ≤ s.2.1) && decide ((s.2.1 : Int) < (List.length s.1 : Int))) then
       let t3 : Int := ((List.getD s.1 (Int.toNat s.2.1) 0).toNat : Int)
       bif (decide ((t3 : Int) = (47 : Int))) then
        some (.inr (.inl (false, ())))
       else
        some (.inl (s.1, (IntKind.i64.wrap (s.2.1 + (1 : Int))), ()))
      else
       none
     else
      some (.inr (.inl (false, ())))
    else
     none
   else
    some (.inr (.inl (false, ())))
  else
   none
 else
  some (.inr (.inr (())))
def ref01_Name_l0 (s : runtime_errorAddressString) : Option (((Bool) × Unit) ⊕ (Unit)) := loopO (ref01_Name_b0) s
def ref01_Name (s : (List UInt8) × Unit) : Option ((Bool) × Unit) :=
 let t0 : Bool := (decide ((((List.length s.1) : Int) : Int) < (1 : Int)))
 bif (!t0) then
  let t1 : Bool := (decide ((((List.length s.1) : Int) : Int) > (12 : Int)))
  bif (!t1) then
   let t2 : Bool := (decide ((s.1 : List UInt8) = ([46] : List UInt8)))
   bif (!t2) then
    let t3 : Bool := (decide ((s.1 : List UInt8) = ([46, 46] : List UInt8)))
    bif t3 then
     some (false, ())
    else
     match ref01_Name_l0 (s.1, (0 : Int), ()) with
     | none => none
     | some (.inl z4) =>
      some (z4.1, ())
     | some (.inr z4) =>
      some (true, ())
   else
    some (false, ())
  else
   some (false, ())
 else
  some (false, ())
def ref01_Valid_b0 (s : (Bool) × (Int) × (List (List UInt8)) × Unit) : Option (((Bool) × (Int) × (List (List UInt8)) × Unit) ⊕ (((Bool) × Unit) ⊕ ((Bool) × Unit))) :=
 let t0 : Bool := (decide ((s.2.1 : Int) < ((List.length s.2.2.1) : Int)))
 bif t0 then
  bif (decide ((0 : Int) ≤ s.2.1) && decide ((s.2.1 : Int) < (List.length s.2.2.1 : Int))) then
   let t1 : List UInt8 := (List.getD s.2.2.1 (Int.toNat s.2.1) ([] : List UInt8))
   match ref01_Name (t1, ()) with
   | none => none
   | some r2 =>
    bif (!r2.1) then
     some (.inr (.inl (false, ())))
    else
     some (.inl (s.1, (IntKind.i64.wrap (s.2.1 + (1 : Int))), s.2.2.1, ()))
  else
   none
 else
  some (.inr (.inr (s.1, ())))
def ref01_Valid_l0 (s : (Bool) × (Int) × (List (List UInt8)) × Unit) : Option (((Bool) × Unit) ⊕ ((Bool) × Unit)) := loopO (ref01_Valid_b0) s
def ref01_Valid (s : (List UInt8) × Unit) : Option ((Bool) × Unit) :=
 match ref01_Names (s.1, ()) with
 | none => none
 | some r0 =>
  match ref01_Valid_l0 (r0.1, (0 : Int), r0.2.1, ()) with
  | none => none
  | some (.inl z1) =>
   some (z1.1, ())
  | some (.inr z1) =>
   some (z1.1, ())
def ref01_Body_b0 (s : (Int) × (List UInt8) × (Int) × Unit) : Option (((Int) × (List UInt8) × (Int) × Unit) ⊕ (((List UInt8) × Unit) ⊕ (Unit))) :=
 bif (decide ((s.2.2.1 : Int) < (8 : Int))) then
  let t0 : Int := (IntKind.i64.wrap ((Int.tmod s.1 (16 : Int)) + (1 : Int)))
  bif (decide ((0 : Int) ≤ (Int.tmod s.1 (16 : Int))) && decide (((Int.tmod s.1 (16 : Int)) : Int) ≤ t0) && decide ((t0 : Int) ≤ (List.length ([48, 49, 50, 51, 52, 53, 54, 55, 56, 57, 97, 98, 99, 100, 101, 102] : List UInt8) : Int))) then
   let t1 : List UInt8 := (List.drop (Int.toNat (Int.tmod s.1 (16 : Int))) (List.take (Int.toNat t0) ([48, 49, 50, 51, 52, 53, 54, 55, 56, 57, 97, 98, 99, 100, 101, 102] : List UInt8)))
   bif (decide (List.length t1 + List.length s.2.1 ≤ roomMax)) then
    let t2 : Int := (IntKind.i64.wrap (Int.tdiv s.1 (16 : Int)))
    some (.inl (t2, (t1 ++ s.2.1), (IntKind.i64.wrap (s.2.2.1 + (1 : Int))), ()))
   else
    none
  else
   none
 else
  some (.inr (.inl (s.2.1, ())))
def ref01_Body_l0 (s : (Int) × (List UInt8) × (Int) × Unit) : Option (((List UInt8) × Unit) ⊕ (Unit)) := loopO (ref01_Body_b0) s
def ref01_Body_j0 (s : (Int) × (Bool) × Unit) : Option ((List UInt8) × Unit) :=
 bif s.2.1 then
  some (([] : List UInt8), ())
 else
  match ref01_Body_l0 (s.1, ([] : List UInt8), (0 : Int), ()) with
  | none => none
  | some (.inl z0) =>
   bif (decide (List.length ([5] : List UInt8) + List.length z0.1 ≤ roomMax)) then
    bif (decide (List.length (([5] : List UInt8) ++ z0.1) + List.length ([47] : List UInt8) ≤ roomMax)) then
     let t1 : List UInt8 := ((([5] : List UInt8) ++ z0.1) ++ ([47] : List UInt8))
     some (t1, ())
    else
     none
   else
    none
  | some (.inr z0) =>
   none

def ref01_Body (s : (Int) × Unit) : Option ((List UInt8) × Unit) :=
 bif (!(decide ((s.1 : Int) < (0 : Int)))) then
  let t0 : Bool := (decide ((s.1 : Int) > (2147483647 : Int)))
  ref01_Body_j0 (s.1, t0, ())
 else
  ref01_Body_j0 (s.1, true, ())
def ref01_IsBody_b0_j0 (s : (List UInt8) × (Int) × (Int) × (Int) × (Bool) × Unit) : Option (((List UInt8) × (Int) × (Int) × Unit) ⊕ ((runtime_errorAddressString) ⊕ (Unit))) :=
 bif s.2.2.2.2.1 then
  let t0 : Int := (IntKind.i64.wrap ((IntKind.i64.wrap ((16 : Int) * s.2.1)) + s.2.2.2.1))
  some (.inl (s.1, (IntKind.i64.wrap (t0 - (48 : Int))), (IntKind.i64.wrap (s.2.2.1 + (1 : Int))), ()))
 else
  let t0 : Int := (IntKind.i64.wrap ((IntKind.i64.wrap ((16 : Int) * s.2.1)) + s.2.2.2.1))
  let t1 : Int := (IntKind.i64.wrap ((IntKind.i64.wrap (t0 - (97 : Int))) + (10 : Int)))
  some (.inl (s.1, t1, (IntKind.i64.wrap (s.2.2.1 + (1 : Int))), ()))

def ref01_IsBody_b0 (s : (List UInt8) × (Int) × (Int) × Unit) : Option (((List UInt8) × (Int) × (Int) × Unit) ⊕ ((runtime_errorAddressString) ⊕ (Unit))) :=
 bif (decide ((s.2.2.1 : Int) < (9 : Int))) then
  bif (decide ((0 : Int) ≤ s.2.2.1) && decide ((s.2.2.1 : Int) < (List.length s.1 : Int))) then
   let t0 : Int := ((List.getD s.1 (Int.toNat s.2.2.1) 0).toNat : Int)
   let t1 : Bool := (decide (((IntKind.i64.wrap t0) : Int) ≥ (48 : Int)))
   bif t1 then
    let t2 : Bool := (decide (((IntKind.i64.wrap t0) : Int) ≤ (57 : Int)))
    ref01_IsBody_b0_j0 (s.1, s.2.1, s.2.2.1, (IntKind.i64.wrap t0), t2, ())
   else
    ref01_IsBody_b0_j0 (s.1, s.2.1, s.2.2.1, (IntKind.i64.wrap t0), false, ())
  else
   none
 else
  some (.inr (.inl (s.1, s.2.1, ())))
def ref01_IsBody_l0 (s : (List UInt8) × (Int) × (Int) × Unit) : Option ((runtime_errorAddressString) ⊕ (Unit)) := loopO (ref01_IsBody_b0) s
def ref01_IsBody (s : (List UInt8) × Unit) : Option ((Bool) × Unit) :=
 let t0 : Bool := (!decide ((((List.length s.1) : Int) : Int) = (10 : Int)))
 bif t0 then
  some (false, ())
 else
  match ref01_IsBody_l0 (s.1, (0 : Int), (1 : Int), ()) with
  | none => none
  | some (.inl z1) =>
   match ref01_Body (z1.2.1, ()) with
   | none => none
   | some r2 =>
    some ((decide ((r2.1 : List UInt8) = z1.1)), ())
  | some (.inr z1) =>
   none
def ref01_right_c100002 (s : (Bool) × (api_Place) × Unit) : Option (((api_Place) × Unit) ⊕ ((Bool) × Unit)) :=
 bif s.1 then
  some (.inr (false, ()))
 else
  some (.inl (s.2.1, ()))
def ref01_right_c10 (s : (api_Place) × Unit) : Option (((Bool) × Unit) ⊕ (Unit)) :=
 bif (decide ((s.1.2.1 : Int) = (4 : Int))) then
  match ref01_Valid (s.1.1, ()) with
  | none => none
  | some r0 =>
   some (.inl (r0.1, ()))
 else
  some (.inl (false, ()))
def ref01_right_c3 (s : (api_Place) × Unit) : Option (((Bool) × Unit) ⊕ (Unit)) :=
 bif (decide ((s.1.2.1 : Int) = (1 : Int))) then
  some (.inl (true, ()))
 else
  bif (decide ((s.1.2.1 : Int) = (2 : Int))) then
   bif (decide ((s.1.2.2.1 : Int) ≥ (0 : Int))) then
    let t0 : Bool := (decide ((s.1.2.2.1 : Int) ≤ (60000 : Int)))
    some (.inl (t0, ()))
   else
    some (.inl (false, ()))
  else
   bif (decide ((s.1.2.1 : Int) = (3 : Int))) then
    match ref01_Name (s.1.2.2.2.1, ()) with
    | none => none
    | some r0 =>
     some (.inl (r0.1, ()))
   else
    match ref01_right_c10 (s.1, ()) with
    | none => none
    | some (.inl z0) =>
     some (.inl (z0.1, ()))
    | some (.inr z0) =>
     none
def ref01_right (s : (api_Place) × Unit) : Option ((Bool) × Unit) :=
 match ref01_Valid (s.1.1, ()) with
 | none => none
 | some r0 =>
  bif (!r0.1) then
   match ref01_IsBody (s.1.1, ()) with
   | none => none
   | some r1 =>
    bif (!(!r1.1)) then
     bif (!decide ((s.1.2.1 : Int) = (2 : Int))) then
      let t2 : Bool := (!decide ((s.1.2.2.1 : Int) = (0 : Int)))
      bif (!t2) then
       bif (!decide ((s.1.2.1 : Int) = (3 : Int))) then
        let t3 : Bool := (!decide ((s.1.2.2.2.1 : List UInt8) = ([] : List UInt8)))
        match ref01_right_c100002 (t3, s.1, ()) with
        | none => none
        | some (.inl z4) =>
         match ref01_right_c3 (z4.1, ()) with
         | none => none
         | some (.inl z5) =>
          some (z5.1, ())
         | some (.inr z5) =>
          none
        | some (.inr z4) =>
         some (z4.1, ())
       else
        match ref01_right_c100002 (false, s.1, ()) with
        | none => none
        | some (.inl z3) =>
         match ref01_right_c3 (z3.1, ()) with
         | none => none
         | some (.inl z4) =>
          some (z4.1, ())
         | some (.inr z4) =>
          none
        | some (.inr z3) =>
         some (z3.1, ())
      else
       match ref01_right_c100002 (true, s.1, ()) with
       | none => none
       | some (.inl z3) =>
        match ref01_right_c3 (z3.1, ()) with
        | none => none
        | some (.inl z4) =>
         some (z4.1, ())
        | some (.inr z4) =>
         none
       | some (.inr z3) =>
        some (z3.1, ())
     else
      bif (!decide ((s.1.2.1 : Int) = (3 : Int))) then
       let t2 : Bool := (!decide ((s.1.2.2.2.1 : List UInt8) = ([] : List UInt8)))
       match ref01_right_c100002 (t2, s.1, ()) with
       | none => none
       | some (.inl z3) =>
        match ref01_right_c3 (z3.1, ()) with
        | none => none
        | some (.inl z4) =>
         some (z4.1, ())
        | some (.inr z4) =>
         none
       | some (.inr z3) =>
        some (z3.1, ())
      else
       match ref01_right_c100002 (false, s.1, ()) with
       | none => none
       | some (.inl z2) =>
        match ref01_right_c3 (z2.1, ()) with
        | none => none
        | some (.inl z3) =>
         some (z3.1, ())
        | some (.inr z3) =>
         none
       | some (.inr z2) =>
        some (z2.1, ())
    else
     match ref01_right_c100002 (true, s.1, ()) with
     | none => none
     | some (.inl z2) =>
      match ref01_right_c3 (z2.1, ()) with
      | none => none
      | some (.inl z3) =>
       some (z3.1, ())
      | some (.inr z3) =>
       none
     | some (.inr z2) =>
      some (z2.1, ())
  else
   bif (!decide ((s.1.2.1 : Int) = (2 : Int))) then
    let t1 : Bool := (!decide ((s.1.2.2.1 : Int) = (0 : Int)))
    bif (!t1) then
     bif (!decide ((s.1.2.1 : Int) = (3 : Int))) then
      let t2 : Bool := (!decide ((s.1.2.2.2.1 : List UInt8) = ([] : List UInt8)))
      match ref01_right_c100002 (t2, s.1, ()) with
      | none => none
      | some (.inl z3) =>
       match ref01_right_c3 (z3.1, ()) with
       | none => none
       | some (.inl z4) =>
        some (z4.1, ())
       | some (.inr z4) =>
        none
      | some (.inr z3) =>
       some (z3.1, ())
     else
      match ref01_right_c100002 (false, s.1, ()) with
      | none => none
      | some (.inl z2) =>
       match ref01_right_c3 (z2.1, ()) with
       | none => none
       | some (.inl z3) =>
        some (z3.1, ())
       | some (.inr z3) =>
        none
      | some (.inr z2) =>
       some (z2.1, ())
    else
     match ref01_right_c100002 (true, s.1, ()) with
     | none => none
     | some (.inl z2) =>
      match ref01_right_c3 (z2.1, ()) with
      | none => none
      | some (.inl z3) =>
       some (z3.1, ())
      | some (.inr z3) =>
       none
     | some (.inr z2) =>
      some (z2.1, ())
   else
    bif (!decide ((s.1.2.1 : Int) = (3 : Int))) then
     let t1 : Bool := (!decide ((s.1.2.2.2.1 : List UInt8) = ([] : List UInt8)))
     match ref01_right_c100002 (t1, s.1, ()) with
     | none => none
     | some (.inl z2) =>
      match ref01_right_c3 (z2.1, ()) with
      | none => none
      | some (.inl z3) =>
       some (z3.1, ())
      | some (.inr z3) =>
       none
     | some (.inr z2) =>
      some (z2.1, ())
    else
     match ref01_right_c100002 (false, s.1, ()) with
     | none => none
     | some (.inl z1) =>
      match ref01_right_c3 (z1.1, ()) with
      | none => none
      | some (.inl z2) =>
       some (z2.1, ())
      | some (.inr z2) =>
       none
     | some (.inr z1) =>
      some (z1.1, ())
def ref01_Key (s : (api_Place) × Unit) : Option (runtime_errorAddressString) :=
 match ref01_right (s.1, ()) with
 | none => none
 | some r0 =>
  bif (!r0.1) then
   some (([] : List UInt8), (12 : Int), ())
  else
   bif (decide ((s.1.2.1 : Int) = (1 : Int))) then
    bif (decide (List.length s.1.1 + List.length ([1] : List UInt8) ≤ roomMax)) then
     some ((s.1.1 ++ ([1] : List UInt8)), (0 : Int), ())
    else
     none
   else
    bif (decide ((s.1.2.1 : Int) = (2 : Int))) then
     bif (decide (List.length s.1.1 + List.length ([2] : List UInt8) ≤ roomMax)) then
      let t1 : Int := (IntKind.i64.wrap (Int.tdiv s.1.2.2.1 (256 : Int)))
      let t2 : Int := (IntKind.u8.wrap (Int.tmod s.1.2.2.1 (256 : Int)))
      let t3 : List UInt8 := (sOfBytes ([(IntKind.u8.wrap t1), t2] : List (Int)))
      bif (decide (List.length (s.1.1 ++ ([2] : List UInt8)) + List.length t3 ≤ roomMax)) then
       some (((s.1.1 ++ ([2] : List UInt8)) ++ t3), (0 : Int), ())
      else
       none
     else
      none
    else
     bif (decide ((s.1.2.1 : Int) = (3 : Int))) then
      bif (decide (List.length s.1.1 + List.length ([3] : List UInt8) ≤ roomMax)) then
       bif (decide (List.length (s.1.1 ++ ([3] : List UInt8)) + List.length s.1.2.2.2.1 ≤ roomMax)) then
        let t1 : List UInt8 := ((s.1.1 ++ ([3] : List UInt8)) ++ s.1.2.2.2.1)
        some (t1, (0 : Int), ())
       else
        none
      else
       none
     else
      bif (decide (List.length ([6] : List UInt8) + List.length s.1.1 ≤ roomMax)) then
       bif (decide (List.length (([6] : List UInt8) ++ s.1.1) + List.length ([1] : List UInt8) ≤ roomMax)) then
        let t1 : List UInt8 := ((([6] : List UInt8) ++ s.1.1) ++ ([1] : List UInt8))
        some (t1, (0 : Int), ())
       else
        none
      else
       none
def ref01_Place_b0_j0 (s : (List UInt8) × (Int) × (Bool) × (List UInt8) × (Int) × (Int) × (List UInt8) × Unit) : Option (((List UInt8) × (Int) × (List UInt8) × (Int) × (Int) × (List UInt8) × Unit) ⊕ (((Int) × (api_Place) × Unit) ⊕ (api_Place))) :=
 bif s.2.2.1 then
  some (.inl (s.1, (IntKind.i64.wrap (s.2.1 + (1 : Int))), s.2.2.2.1, s.2.2.2.2.1, s.2.2.2.2.2.1, s.2.2.2.2.2.2.1, ()))
 else
  match ref01_guess (s.1, s.2.1, ()) with
  | none => none
  | some r0 =>
   match ref01_Key (r0.1, ()) with
   | none => none
   | some r1 =>
    bif (decide ((r1.2.1 : Int) = (0 : Int))) then
     bif (decide ((r1.1 : List UInt8) = s.1)) then
      some (.inr (.inl ((0 : Int), r0.1, ())))
     else
      some (.inl (s.1, (IntKind.i64.wrap (s.2.1 + (1 : Int))), s.2.2.2.1, s.2.2.2.2.1, s.2.2.2.2.2.1, s.2.2.2.2.2.2.1, ()))
    else
     some (.inl (s.1, (IntKind.i64.wrap (s.2.1 + (1 : Int))), s.2.2.2.1, s.2.2.2.2.1, s.2.2.2.2.2.1, s.2.2.2.2.2.2.1, ()))

def ref01_Place_b0 (s : (List UInt8) × (Int) × (List UInt8) × (Int) × (Int) × (List UInt8) × Unit) : Option (((List UInt8) × (Int) × (List UInt8) × (Int) × (Int) × (List UInt8) × Unit) ⊕ (((Int) × (api_Place) × Unit) ⊕ (api_Place))) :=
 let t0 : Bool := (decide ((s.2.1 : Int) < ((List.length s.1) : Int)))
 bif t0 then
  bif (decide ((0 : Int) ≤ s.2.1) && decide ((s.2.1 : Int) < (List.length s.1 : Int))) then
   let t1 : Int := ((List.getD s.1 (Int.toNat s.2.1) 0).toNat : Int)
   bif (!(decide ((t1 : Int) < (1 : Int)))) then
    bif (decide ((0 : Int) ≤ s.2.1) && decide ((s.2.1 : Int) < (List.length s.1 : Int))) then
     let t2 : Int := ((List.getD s.1 (Int.toNat s.2.1) 0).toNat : Int)
     ref01_Place_b0_j0 (s.1, s.2.1, (decide ((t2 : Int) > (3 : Int))), s.2.2.1, s.2.2.2.1, s.2.2.2.2.1, s.2.2.2.2.2.1, ())
    else
     none
   else
    ref01_Place_b0_j0 (s.1, s.2.1, true, s.2.2.1, s.2.2.2.1, s.2.2.2.2.1, s.2.2.2.2.2.1, ())
  else
   none
 else
  some (.inr (.inr (s.2.2.1, s.2.2.2.1, s.2.2.2.2.1, s.2.2.2.2.2.1, ())))
def ref01_Place_l0 (s : (List UInt8) × (Int) × (List UInt8) × (Int) × (Int) × (List UInt8) × Unit) : Option (((Int) × (api_Place) × Unit) ⊕ (api_Place)) := loopO (ref01_Place_b0) s
def ref01_Place (s : (List UInt8) × Unit) : Option ((api_Place) × (Int) × Unit) :=
 match ref01_Place_l0 (s.1, (0 : Int), ([] : List UInt8), (0 : Int), (0 : Int), ([] : List UInt8), ()) with
 | none => none
 | some (.inl z0) =>
  some (z0.2.1, z0.1, ())
 | some (.inr z0) =>
  some ((([] : List UInt8), ((0 : Int), ((0 : Int), (([] : List UInt8), ())))), (12 : Int), ())
def ref10_isEntry (s : (List UInt8) × Unit) : Option ((Bool) × Unit) :=
 match ref01_Place (s.1, ()) with
 | none => none
 | some r0 =>
  bif (decide ((r0.2.1 : Int) = (0 : Int))) then
   some ((decide ((r0.1.2.1 : Int) = (1 : Int))), ())
  else
   some (false, ())
def ref10_higher (s : (api_Use) × (Int) × Unit) : Option (quota_amount) :=
 let t0 : Int := (if ((IntKind.i64.wrap (s.1.2.1 + s.2.1)) : Int) < (1000000000000000 : Int) then (IntKind.i64.wrap (s.1.2.1 + s.2.1)) else (1000000000000000 : Int))
 some ((s.1.1, (t0, ())), ())
def ref10_lower (s : (api_Use) × (Int) × Unit) : Option (quota_amount) :=
 let t0 : Int := (if ((0 : Int) : Int) < (IntKind.i64.wrap (s.1.1 - s.2.1)) then (IntKind.i64.wrap (s.1.1 - s.2.1)) else (0 : Int))
 some ((t0, (s.1.2.1, ())), ())
def ref10_Alike_j1 (s : (List UInt8) × (List UInt8) × (Bool) × (Bool) × Unit) : Option ((Bool) × Unit) :=
 bif (!s.2.2.1) then
  bif (!s.2.2.2.1) then
   match ref01_IsBody (s.1, ()) with
   | none => none
   | some r0 =>
    bif r0.1 then
     match ref01_IsBody (s.2.1, ()) with
     | none => none
     | some r1 =>
      some (r1.1, ())
    else
     some (false, ())
  else
   some (true, ())
 else
  some (true, ())
def ref10_Alike_j0 (s : (List UInt8) × (List UInt8) × (Bool) × Unit) : Option ((Bool) × Unit) :=
 let t0 : Bool := (!decide ((s.1 : List UInt8) = ([] : List UInt8)))
 bif t0 then
  let t1 : Bool := (!decide ((s.2.1 : List UInt8) = ([] : List UInt8)))
  bif t1 then
   match ref01_Valid (s.1, ()) with
   | none => none
   | some r2 =>
    bif r2.1 then
     match ref01_Valid (s.2.1, ()) with
     | none => none
     | some r3 =>
      ref10_Alike_j1 (s.1, s.2.1, s.2.2.1, r3.1, ())
    else
     ref10_Alike_j1 (s.1, s.2.1, s.2.2.1, false, ())
  else
   ref10_Alike_j1 (s.1, s.2.1, s.2.2.1, false, ())
 else
  ref10_Alike_j1 (s.1, s.2.1, s.2.2.1, false, ())

def ref10_Alike (s : api_Span) : Option ((Bool) × Unit) :=
 let t0 : Bool := (decide ((((List.length s.1) : Int) : Int) > (0 : Int)))
 bif t0 then
  bif (decide (((0 : Int) : Int) < (List.length s.1 : Int))) then
   let t1 : Bool := (decide ((((List.getD s.1 0 0).toNat : Int) : Int) = (6 : Int)))
   bif t1 then
    let t2 : Bool := (decide ((((List.length s.2.1) : Int) : Int) > (0 : Int)))
    bif t2 then
     bif (decide (((0 : Int) : Int) < (List.length s.2.1 : Int))) then
      let t3 : Bool := (decide ((((List.getD s.2.1 0 0).toNat : Int) : Int) = (6 : Int)))
      ref10_Alike_j0 (s.1, s.2.1, t3, ())
     else
      none
    else
     ref10_Alike_j0 (s.1, s.2.1, false, ())
   else
    ref10_Alike_j0 (s.1, s.2.1, false, ())
  else
   none
 else
  ref10_Alike_j0 (s.1, s.2.1, false, ())
def ref10_change (s : (api_Sum) × (api_Msg) × Unit) : Option (bound_bounds) :=
 bif (decide ((s.2.1.1 : Int) = (1 : Int))) then
  match ref10_isEntry (s.2.1.2.1, ()) with
  | none => none
  | some r0 =>
   bif r0.1 then
    match ref10_higher (s.1.1, (1 : Int), ()) with
    | none => none
    | some r1 =>
     some ((r1.1, (s.1.2.1, ())), ())
   else
    match ref10_lower (s.1.2.1, (64 : Int), ()) with
    | none => none
    | some r1 =>
     match ref10_higher (r1.1, ((List.length s.2.1.2.2.1) : Int), ()) with
     | none => none
     | some r2 =>
      some ((s.1.1, (r2.1, ())), ())
 else
  bif (decide ((s.2.1.1 : Int) = (2 : Int))) then
   match ref10_isEntry (s.2.1.2.1, ()) with
   | none => none
   | some r0 =>
    bif r0.1 then
     match ref10_lower (s.1.1, (1 : Int), ()) with
     | none => none
     | some r1 =>
      some ((r1.1, (s.1.2.1, ())), ())
    else
     match ref10_lower (s.1.2.1, (64 : Int), ()) with
     | none => none
     | some r1 =>
      some ((s.1.1, (r1.1, ())), ())
  else
   bif (decide ((s.2.1.1 : Int) = (6 : Int))) then
    some (s.1, ())
   else
    bif (decide ((s.2.1.1 : Int) = (3 : Int))) then
     some ((((0 : Int), (s.1.1.2.1, ())), (((0 : Int), (s.1.2.1.2.1, ())), ())), ())
    else
     match ref10_Alike (s.2.1.2.2.2.2.1, s.2.1.2.2.2.2.2.1, ()) with
     | none => none
     | some r0 =>
      bif (!r0.1) then
       some ((((0 : Int), ((1000000000000000 : Int), ())), (((0 : Int), ((1000000000000000 : Int), ())), ())), ())
      else
       bif (decide ((s.2.1.1 : Int) = (5 : Int))) then
        match ref10_higher (((0 : Int), (s.1.1.2.1, ())), s.1.1.2.1, ()) with
        | none => none
        | some r1 =>
         match ref10_higher (((0 : Int), (s.1.2.1.2.1, ())), s.1.2.1.2.1, ()) with
         | none => none
         | some r2 =>
          some ((r1.1, (r2.1, ())), ())
       else
        some ((((0 : Int), (s.1.1.2.1, ())), (((0 : Int), (s.1.2.1.2.1, ())), ())), ())
def ref03_Charge (s : (api_Pair) × Unit) : Option (quota_amount) :=
 match ref01_Place (s.1.1, ()) with
 | none => none
 | some r0 =>
  bif (!decide ((r0.2.1 : Int) = (0 : Int))) then
   some (((0 : Int), ((0 : Int), ())), ())
  else
   bif (decide ((r0.1.2.1 : Int) = (1 : Int))) then
    some (((1 : Int), ((0 : Int), ())), ())
   else
    bif (decide ((r0.1.2.1 : Int) = (2 : Int))) then
     some (((0 : Int), (((List.length s.1.2.1) : Int), ())), ())
    else
     bif (decide ((r0.1.2.1 : Int) = (3 : Int))) then
      some (((0 : Int), (((List.length s.1.2.1) : Int), ())), ())
     else
      some (((0 : Int), ((0 : Int), ())), ())
def ref03_Total_b0 (s : (List (api_Pair)) × (Int) × (Int) × (Int) × (Int) × (Int) × Unit) : Option (((List (api_Pair)) × (Int) × (Int) × (Int) × (Int) × (Int) × Unit) ⊕ (((Int) × (Int) × (Int) × (Int) × Unit) ⊕ (Unit))) :=
 let t0 : Bool := (decide ((s.2.1 : Int) < ((List.length s.1) : Int)))
 bif t0 then
  bif (decide ((0 : Int) ≤ s.2.1) && decide ((s.2.1 : Int) < (List.length s.1 : Int))) then
   let t1 : api_Pair := (List.getD s.1 (Int.toNat s.2.1) (([] : List UInt8), (([] : List UInt8), ((0 : Int), ()))))
   match ref03_Charge (t1, ()) with
   | none => none
   | some r2 =>
    let t3 : Int := (IntKind.i64.wrap (s.2.2.2.2.1 + r2.1.1))
    let t4 : Int := (IntKind.i64.wrap (s.2.2.2.2.2.1 + r2.1.2.1))
    some (.inl (s.1, (IntKind.i64.wrap (s.2.1 + (1 : Int))), s.2.2.1, s.2.2.2.1, t3, t4, ()))
  else
   none
 else
  some (.inr (.inl (s.2.2.1, s.2.2.2.1, s.2.2.2.2.1, s.2.2.2.2.2.1, ())))
def ref03_Total_l0 (s : (List (api_Pair)) × (Int) × (Int) × (Int) × (Int) × (Int) × Unit) : Option (((Int) × (Int) × (Int) × (Int) × Unit) ⊕ (Unit)) := loopO (ref03_Total_b0) s
def ref03_Total (s : (List (api_Pair)) × Unit) : Option (quota_amount) :=
 match ref03_Total_l0 (s.1, (0 : Int), (0 : Int), (0 : Int), (0 : Int), (0 : Int), ()) with
 | none => none
 | some (.inl z0) =>
  some ((z0.2.2.1, (z0.2.2.2.1, ())), ())
 | some (.inr z0) =>
  none
def ref10_Exact (s : quota_amount) : Option (bound_bounds) :=
 some (((s.1.1, (s.1.1, ())), ((s.1.2.1, (s.1.2.1, ())), ())), ())
def ref10_Sum_b0 (s : (Int) × (api_Node) × (Int) × (Int) × (Int) × (Int) × (api_Sum) × Unit) : Option (((Int) × (api_Node) × (Int) × (Int) × (Int) × (Int) × (api_Sum) × Unit) ⊕ (((api_Node) × (Int) × (Int) × (Int) × (Int) × (api_Sum) × Unit) ⊕ (Unit))) :=
 let t0 : Bool := (decide ((s.1 : Int) < ((List.length s.2.1.2.2.2.1) : Int)))
 bif t0 then
  bif (decide ((0 : Int) ≤ s.1) && decide ((s.1 : Int) < (List.length s.2.1.2.2.2.1 : Int))) then
   let t1 : api_Sum := (List.getD s.2.1.2.2.2.1 (Int.toNat s.1) (((0 : Int), ((0 : Int), ())), (((0 : Int), ((0 : Int), ())), ())))
   match ref10_Plus (s.2.2.2.2.2.2.1, t1, ()) with
   | none => none
   | some r2 =>
    some (.inl ((IntKind.i64.wrap (s.1 + (1 : Int))), s.2.1, s.2.2.1, s.2.2.2.1, s.2.2.2.2.1, s.2.2.2.2.2.1, r2.1, ()))
  else
   none
 else
  some (.inr (.inl (s.2.1, s.2.2.1, s.2.2.2.1, s.2.2.2.2.1, s.2.2.2.2.2.1, s.2.2.2.2.2.2.1, ())))
def ref10_Sum_l0 (s : (Int) × (api_Node) × (Int) × (Int) × (Int) × (Int) × (api_Sum) × Unit) : Option (((api_Node) × (Int) × (Int) × (Int) × (Int) × (api_Sum) × Unit) ⊕ (Unit)) := loopO (ref10_Sum_b0) s
def ref10_Sum_b1 (s : (Int) × (api_Node) × (Int) × (Int) × (Int) × (Int) × (api_Sum) × Unit) : Option (((Int) × (api_Node) × (Int) × (Int) × (Int) × (Int) × (api_Sum) × Unit) ⊕ (((Int) × (Int) × (Int) × (Int) × (api_Sum) × Unit) ⊕ (Unit))) :=
 let t0 : Bool := (decide ((s.1 : Int) < ((List.length s.2.1.2.2.2.2.1) : Int)))
 bif t0 then
  bif (decide ((0 : Int) ≤ s.1) && decide ((s.1 : Int) < (List.length s.2.1.2.2.2.2.1 : Int))) then
   let t1 : api_Msg := (List.getD s.2.1.2.2.2.2.1 (Int.toNat s.1) ((0 : Int), (([] : List UInt8), (([] : List UInt8), ((([] : List UInt8), (([] : List UInt8), ())), (([] : List UInt8), (([] : List UInt8), ((0 : Int), ()))))))))
   match ref10_change (s.2.2.2.2.2.2.1, t1, ()) with
   | none => none
   | some r2 =>
    some (.inl ((IntKind.i64.wrap (s.1 + (1 : Int))), s.2.1, s.2.2.1, s.2.2.2.1, s.2.2.2.2.1, s.2.2.2.2.2.1, r2.1, ()))
  else
   none
 else
  some (.inr (.inl (s.2.2.1, s.2.2.2.1, s.2.2.2.2.1, s.2.2.2.2.2.1, s.2.2.2.2.2.2.1, ())))
def ref10_Sum_l1 (s : (Int) × (api_Node) × (Int) × (Int) × (Int) × (Int) × (api_Sum) × Unit) : Option (((Int) × (Int) × (Int) × (Int) × (api_Sum) × Unit) ⊕ (Unit)) := loopO (ref10_Sum_b1) s
def ref10_Sum (s : (api_Node) × Unit) : Option (bound_bounds) :=
 let t0 : Bool := (decide ((((List.length s.1.2.2.1) : Int) : Int) = (0 : Int)))
 bif t0 then
  match ref03_Total (s.1.1, ()) with
  | none => none
  | some r1 =>
   match ref10_Exact (r1.1, ()) with
   | none => none
   | some r2 =>
    some (r2.1, ())
 else
  match ref10_Sum_l0 ((0 : Int), s.1, (0 : Int), (0 : Int), (0 : Int), (0 : Int), (((0 : Int), ((0 : Int), ())), (((0 : Int), ((0 : Int), ())), ())), ()) with
  | none => none
  | some (.inl z1) =>
   match ref10_Sum_l1 ((0 : Int), z1.1, z1.2.1, z1.2.2.1, z1.2.2.2.1, z1.2.2.2.2.1, z1.2.2.2.2.2.1, ()) with
   | none => none
   | some (.inl z2) =>
    some (z2.2.2.2.2.1, ())
   | some (.inr z2) =>
    none
  | some (.inr z1) =>
   none
def ref12_level_b0_j0 (ref12_level_r : ((api_Pool) × (Int) × (api_Span) × (Int) × Unit) → Option ((Int) × Unit)) (s : (Int) × (Int) × (Int) × (api_Pool) × (api_Node) × (List (api_Span)) × Unit) : Option (((Int) × (Int) × (Int) × (api_Pool) × (api_Node) × (List (api_Span)) × Unit) ⊕ (((Int) × Unit) ⊕ ((Int) × Unit))) :=
 bif (decide ((0 : Int) ≤ s.2.1) && decide ((s.2.1 : Int) < (List.length s.2.2.2.2.1.2.2.1 : Int))) then
  let t0 : Int := (List.getD s.2.2.2.2.1.2.2.1 (Int.toNat s.2.1) (0 : Int))
  match ref11_Get (s.2.2.2.1, t0, ()) with
  | none => none
  | some r1 =>
   match ref10_Sum (r1.1, ()) with
   | none => none
   | some r2 =>
    bif (decide ((0 : Int) ≤ s.2.1) && decide ((s.2.1 : Int) < (List.length s.2.2.2.2.1.2.2.2.1 : Int))) then
     let t3 : api_Sum := (List.getD s.2.2.2.2.1.2.2.2.1 (Int.toNat s.2.1) (((0 : Int), ((0 : Int), ())), (((0 : Int), ((0 : Int), ())), ())))
     let t4 : Bool := (!(Ty.eqb tapi_Sum r2.1 t3))
     bif t4 then
      some (.inr (.inl ((0 : Int), ())))
     else
      some (.inl (s.1, s.2.2.1, (IntKind.i64.wrap (s.2.1 + (1 : Int))), s.2.2.2.1, s.2.2.2.2.1, s.2.2.2.2.2.1, ()))
    else
     none
 else
  none

def ref12_level_b0 (ref12_level_r : ((api_Pool) × (Int) × (api_Span) × (Int) × Unit) → Option ((Int) × Unit)) (s : (Int) × (Int) × (Int) × (api_Pool) × (api_Node) × (List (api_Span)) × Unit) : Option (((Int) × (Int) × (Int) × (api_Pool) × (api_Node) × (List (api_Span)) × Unit) ⊕ (((Int) × Unit) ⊕ ((Int) × Unit))) :=
 let t0 : Bool := (decide ((s.2.2.1 : Int) < ((List.length s.2.2.2.2.1.2.2.1) : Int)))
 bif t0 then
  bif (decide ((0 : Int) ≤ s.2.2.1) && decide ((s.2.2.1 : Int) < (List.length s.2.2.2.2.1.2.2.1 : Int))) then
   let t1 : Int := (List.getD s.2.2.2.2.1.2.2.1 (Int.toNat s.2.2.1) (0 : Int))
   bif (decide ((0 : Int) ≤ s.2.2.1) && decide ((s.2.2.1 : Int) < (List.length s.2.2.2.2.2.1 : Int))) then
    let t2 : api_Span := (List.getD s.2.2.2.2.2.1 (Int.toNat s.2.2.1) (([] : List UInt8), (([] : List UInt8), ())))
    match ref12_level_r (s.2.2.2.1, t1, t2, (IntKind.i64.wrap (s.1 - (1 : Int))), ()) with
    | none => none
    | some r3 =>
     bif (!(decide ((r3.1 : Int) = (0 : Int)))) then
      bif (decide ((s.2.2.1 : Int) > (0 : Int))) then
       bif (!decide ((r3.1 : Int) = s.2.1)) then
        some (.inr (.inl ((0 : Int), ())))
       else
        ref12_level_b0_j0 ref12_level_r (s.1, s.2.2.1, r3.1, s.2.2.2.1, s.2.2.2.2.1, s.2.2.2.2.2.1, ())
      else
       ref12_level_b0_j0 ref12_level_r (s.1, s.2.2.1, r3.1, s.2.2.2.1, s.2.2.2.2.1, s.2.2.2.2.2.1, ())
     else
      some (.inr (.inl ((0 : Int), ())))
   else
    none
  else
   none
 else
  some (.inr (.inr (s.2.1, ())))
def ref12_level_l0 (ref12_level_r : ((api_Pool) × (Int) × (api_Span) × (Int) × Unit) → Option ((Int) × Unit)) (s : (Int) × (Int) × (Int) × (api_Pool) × (api_Node) × (List (api_Span)) × Unit) : Option (((Int) × Unit) ⊕ ((Int) × Unit)) := loopO (ref12_level_b0 ref12_level_r) s
def ref12_level_j0 (ref12_level_r : ((api_Pool) × (Int) × (api_Span) × (Int) × Unit) → Option ((Int) × Unit)) (s : (Int) × (Bool) × (api_Pool) × (api_Span) × (api_Node) × Unit) : Option ((Int) × Unit) :=
 bif s.2.1 then
  some ((0 : Int), ())
 else
  let t0 : Bool := (decide ((((List.length s.2.2.2.2.1.2.2.1) : Int) : Int) = (0 : Int)))
  bif t0 then
   some ((1 : Int), ())
  else
   match ref10_Spans (s.2.2.2.2.1, s.2.2.2.1, ()) with
   | none => none
   | some r1 =>
    match ref12_level_l0 ref12_level_r (s.1, (0 : Int), (0 : Int), s.2.2.1, s.2.2.2.2.1, r1.1, ()) with
    | none => none
    | some (.inl z2) =>
     some (z2.1, ())
    | some (.inr z2) =>
     some ((IntKind.i64.wrap (z2.1 + (1 : Int))), ())

def ref12_level_step (ref12_level_r : ((api_Pool) × (Int) × (api_Span) × (Int) × Unit) → Option ((Int) × Unit)) (s : (api_Pool) × (Int) × (api_Span) × (Int) × Unit) : Option ((Int) × Unit) :=
 match ref11_Get (s.1, s.2.1, ()) with
 | none => none
 | some r0 =>
  bif (!(!decide ((r0.2.1 : Int) = (0 : Int)))) then
   bif (!(decide ((s.2.2.2.1 : Int) = (0 : Int)))) then
    match ref10_Valid (r0.1, s.2.2.1, ()) with
    | none => none
    | some r1 =>
     ref12_level_j0 ref12_level_r (s.2.2.2.1, (!r1.1), s.1, s.2.2.1, r0.1, ())
   else
    ref12_level_j0 ref12_level_r (s.2.2.2.1, true, s.1, s.2.2.1, r0.1, ())
  else
   ref12_level_j0 ref12_level_r (s.2.2.2.1, true, s.1, s.2.2.1, r0.1, ())
def ref12_level_fuel : Nat → ((api_Pool) × (Int) × (api_Span) × (Int) × Unit) → Option ((Int) × Unit)
 | 0, _ => none
 | n + 1, s => ref12_level_step (ref12_level_fuel n) s
def ref12_level (s : (api_Pool) × (Int) × (api_Span) × (Int) × Unit) : Option ((Int) × Unit) := ref12_level_fuel huge s
def ref12_Valid (s : (api_Tree) × Unit) : Option ((Bool) × Unit) :=
 match ref12_Right (s.1.2.2.1, ()) with
 | none => none
 | some r0 =>
  bif r0.1 then
   match ref12_level (s.1.1, s.1.2.1, (([] : List UInt8), (([] : List UInt8), ())), (64 : Int), ()) with
   | none => none
   | some r1 =>
    some ((decide ((r1.1 : Int) > (0 : Int))), ())
  else
   some (false, ())
def internal_stringslite_IndexByte (s : runtime_errorAddressString) : Option ((Int) × Unit) := some ((fun a c => Lib.indexByte a c.toNat.toUInt8) s.1 s.2.1, ())
def internal_stringslite_Index_j0 (s : (List UInt8) × (List UInt8) × (Int) × (Bool) × Unit) : Option ((Int) × Unit) :=
 bif s.2.2.2.1 then
  some ((0 : Int), ())
 else
  bif (decide ((s.2.2.1 : Int) = (1 : Int))) then
   bif (decide (((0 : Int) : Int) < (List.length s.2.1 : Int))) then
    match internal_stringslite_IndexByte (s.1, ((List.getD s.2.1 0 0).toNat : Int), ()) with
    | none => none
    | some r0 =>
     some (r0.1, ())
   else
    none
  else
   let t0 : Bool := (decide ((s.2.2.1 : Int) ≥ ((List.length s.1) : Int)))
   bif t0 then
    some ((-1 : Int), ())
   else
    none

def internal_stringslite_Index (s : api_Span) : Option ((Int) × Unit) :=
 let t0 : Bool := (decide ((((List.length s.2.1) : Int) : Int) = (0 : Int)))
 bif (!t0) then
  internal_stringslite_Index_j0 (s.1, s.2.1, ((List.length s.2.1) : Int), (decide ((s.2.1 : List UInt8) = s.1)), ())
 else
  internal_stringslite_Index_j0 (s.1, s.2.1, ((List.length s.2.1) : Int), true, ())
def internal_stringslite_Cut (s : api_Span) : Option ((List UInt8) × (List UInt8) × (Bool) × Unit) :=
 match internal_stringslite_Index (s.1, s.2.1, ()) with
 | none => none
 | some r0 =>
  bif (decide ((r0.1 : Int) ≥ (0 : Int))) then
   bif (decide (((0 : Int) : Int) ≤ r0.1) && decide ((r0.1 : Int) ≤ (List.length s.1 : Int))) then
    let t1 : List UInt8 := (List.drop 0 (List.take (Int.toNat r0.1) s.1))
    let t2 : Int := (IntKind.i64.wrap (r0.1 + ((List.length s.2.1) : Int)))
    bif (decide ((0 : Int) ≤ t2) && decide ((t2 : Int) ≤ (List.length s.1 : Int)) && decide (((List.length s.1 : Int) : Int) ≤ (List.length s.1 : Int))) then
     let t3 : List UInt8 := (List.drop (Int.toNat t2) (List.take (Int.toNat (List.length s.1 : Int)) s.1))
     some (t1, t3, true, ())
    else
     none
   else
    none
  else
   some (s.1, ([] : List UInt8), false, ())
def strings_Cut (s : api_Span) : Option ((List UInt8) × (List UInt8) × (Bool) × Unit) :=
 match internal_stringslite_Cut (s.1, s.2.1, ()) with
 | none => none
 | some r0 =>
  some (r0.1, r0.2.1, r0.2.2.1, ())
def path_isNameC1 (s : (Int) × Unit) : Option ((Bool) × Unit) :=
 bif (!(decide ((s.1 : Int) < (33 : Int)))) then
  bif (!(decide ((s.1 : Int) > (126 : Int)))) then
   some ((decide ((s.1 : Int) = (47 : Int))), ())
  else
   some (true, ())
 else
  some (true, ())
def strings_indexFunc_b0 (s : (Bool) × (List UInt8) × (Int) × Unit) : Option (((Bool) × (List UInt8) × (Int) × Unit) ⊕ (((Int) × Unit) ⊕ (Unit))) :=
 bif (decide ((s.2.2.1 : Int) < (List.length s.2.1 : Int))) then
  match path_isNameC1 ((runeAt s.2.1 s.2.2.1).1, ()) with
  | none => none
  | some r0 =>
   bif (r0.1 == s.1) then
    some (.inr (.inl (s.2.2.1, ())))
   else
    some (.inl (s.1, s.2.1, (s.2.2.1 + (runeAt s.2.1 s.2.2.1).2), ()))
 else
  some (.inr (.inr (())))
def strings_indexFunc_l0 (s : (Bool) × (List UInt8) × (Int) × Unit) : Option (((Int) × Unit) ⊕ (Unit)) := loopO (strings_indexFunc_b0) s
def strings_indexFunc (s : (List UInt8) × (Bool) × Unit) : Option ((Int) × Unit) :=
 match strings_indexFunc_l0 (s.2.1, s.1, (0 : Int), ()) with
 | none => none
 | some (.inl z0) =>
  some (z0.1, ())
 | some (.inr z0) =>
  some ((-1 : Int), ())
def strings_IndexFunc (s : (List UInt8) × Unit) : Option ((Int) × Unit) :=
 match strings_indexFunc (s.1, true, ()) with
 | none => none
 | some r0 =>
  some (r0.1, ())
def path_isName (s : (List UInt8) × Unit) : Option ((Bool) × Unit) :=
 let t0 : Bool := (decide ((s.1 : List UInt8) = ([] : List UInt8)))
 bif (!t0) then
  let t1 : Bool := (decide ((((List.length s.1) : Int) : Int) > (12 : Int)))
  bif (!t1) then
   let t2 : Bool := (decide ((s.1 : List UInt8) = ([46] : List UInt8)))
   bif (!t2) then
    let t3 : Bool := (decide ((s.1 : List UInt8) = ([46, 46] : List UInt8)))
    bif t3 then
     some (false, ())
    else
     match strings_IndexFunc (s.1, ()) with
     | none => none
     | some r4 =>
      some ((decide ((r4.1 : Int) < (0 : Int))), ())
   else
    some (false, ())
  else
   some (false, ())
 else
  some (false, ())
def path_Valid_b0 (s : (List UInt8) × Unit) : Option (((List UInt8) × Unit) ⊕ (((Bool) × Unit) ⊕ (Unit))) :=
 let t0 : Bool := (!decide ((s.1 : List UInt8) = ([] : List UInt8)))
 bif t0 then
  match strings_Cut (s.1, ([47] : List UInt8), ()) with
  | none => none
  | some r1 =>
   bif (!(!r1.2.2.1)) then
    match path_isName (r1.1, ()) with
    | none => none
    | some r2 =>
     bif (!r2.1) then
      some (.inr (.inl (false, ())))
     else
      some (.inl (r1.2.1, ()))
   else
    some (.inr (.inl (false, ())))
 else
  some (.inr (.inr (())))
def path_Valid_l0 (s : (List UInt8) × Unit) : Option (((Bool) × Unit) ⊕ (Unit)) := loopO (path_Valid_b0) s
def path_Valid (s : (List UInt8) × Unit) : Option ((Bool) × Unit) :=
 match path_Valid_l0 (s.1, ()) with
 | none => none
 | some (.inl z0) =>
  some (z0.1, ())
 | some (.inr z0) =>
  some (true, ())
def decide_most (s : api_Sum) : Option ((Bool) × Unit) :=
 bif (decide ((s.1.1 : Int) ≤ s.2.1.1)) then
  some ((decide ((s.1.2.1 : Int) ≤ s.2.1.2.1)), ())
 else
  some (false, ())
def decide_right (s : (api_Hold) × Unit) : Option ((Bool) × Unit) :=
 bif (decide ((s.1.1 : Int) ≥ (1 : Int))) then
  let t0 : Bool := (decide ((s.1.1 : Int) < (2147483648 : Int)))
  bif t0 then
   match path_Valid (s.1.2.1, ()) with
   | none => none
   | some r1 =>
    bif r1.1 then
     match decide_most (((0 : Int), ((0 : Int), ())), s.1.2.2.1, ()) with
     | none => none
     | some r2 =>
      bif r2.1 then
       match decide_most (s.1.2.2.1, ((1000000000 : Int), ((1000000000 : Int), ())), ()) with
       | none => none
       | some r3 =>
        some (r3.1, ())
      else
       some (false, ())
    else
     some (false, ())
  else
   some (false, ())
 else
  some (false, ())
def decide_findC1 (s : (api_Hold) × (Int) × Unit) : Option ((Bool) × (Int) × Unit) :=
 some ((decide ((s.1.1 : Int) = s.2.1)), s.2.1, ())
def slices_IndexFunc_api_Hold_api_Hold_b0 (s : (List (api_Hold)) × (Int) × (Int) × (Int) × Unit) : Option (((List (api_Hold)) × (Int) × (Int) × (Int) × Unit) ⊕ ((api_Use) ⊕ ((Int) × Unit))) :=
 bif (decide ((s.2.2.1 : Int) < s.2.1)) then
  bif (decide ((0 : Int) ≤ s.2.2.1) && decide ((s.2.2.1 : Int) < (List.length s.1 : Int))) then
   let t0 : api_Hold := (List.getD s.1 (Int.toNat s.2.2.1) ((0 : Int), (([] : List UInt8), (((0 : Int), ((0 : Int), ())), ()))))
   match decide_findC1 (t0, s.2.2.2.1, ()) with
   | none => none
   | some r1 =>
    bif r1.1 then
     some (.inr (.inl (s.2.2.1, r1.2.1, ())))
    else
     some (.inl (s.1, s.2.1, (IntKind.i64.wrap (s.2.2.1 + (1 : Int))), r1.2.1, ()))
  else
   none
 else
  some (.inr (.inr (s.2.2.2.1, ())))
def slices_IndexFunc_api_Hold_api_Hold_l0 (s : (List (api_Hold)) × (Int) × (Int) × (Int) × Unit) : Option ((api_Use) ⊕ ((Int) × Unit)) := loopO (slices_IndexFunc_api_Hold_api_Hold_b0) s
def slices_IndexFunc_api_Hold_api_Hold (s : (List (api_Hold)) × (Int) × Unit) : Option (api_Use) :=
 match slices_IndexFunc_api_Hold_api_Hold_l0 (s.1, ((List.length s.1) : Int), (0 : Int), s.2.1, ()) with
 | none => none
 | some (.inl z0) =>
  some (z0.1, z0.2.1, ())
 | some (.inr z0) =>
  some ((-1 : Int), z0.1, ())
def decide_find (s : (List (api_Hold)) × (Int) × Unit) : Option ((Int) × Unit) :=
 match slices_IndexFunc_api_Hold_api_Hold (s.1, s.2.1, ()) with
 | none => none
 | some r0 =>
  some (r0.1, ())
def slices_Clip_api_Hold_api_Hold (s : (List (api_Hold)) × Unit) : Option ((List (api_Hold)) × Unit) :=
 bif (decide ((0 : Int) ≤ (0 : Int)) && decide (((0 : Int) : Int) ≤ ((List.length s.1) : Int)) && decide ((((List.length s.1) : Int) : Int) ≤ (List.length s.1 : Int)) && decide ((((List.length s.1) : Int) : Int) = ((List.length s.1) : Int))) then
  let t0 : List (api_Hold) := (List.drop 0 (List.take (Int.toNat ((List.length s.1) : Int)) s.1))
  some (t0, ())
 else
  none
def decide_Reserve_j0 (s : (List (api_Hold)) × (Bool) × (api_Hold) × Unit) : Option ((List (api_Hold)) × (Int) × Unit) :=
 bif s.2.1 then
  some (s.1, (220 : Int), ())
 else
  let t0 : Bool := (decide ((((List.length s.1) : Int) : Int) ≥ (16 : Int)))
  bif t0 then
   some (s.1, (2 : Int), ())
  else
   match slices_Clip_api_Hold_api_Hold (s.1, ()) with
   | none => none
   | some r1 =>
    bif (decide (0 < List.length ([s.2.2.1] : List (api_Hold))) && decide ((List.length r1.1 + List.length ([s.2.2.1] : List (api_Hold))) * 40 ≤ roomMax)) then
     let t2 : List (api_Hold) := (r1.1 ++ ([s.2.2.1] : List (api_Hold)))
     some (t2, (0 : Int), ())
    else
     none

def decide_Reserve (s : (List (api_Hold)) × (api_Hold) × Unit) : Option ((List (api_Hold)) × (Int) × Unit) :=
 match decide_right (s.2.1, ()) with
 | none => none
 | some r0 =>
  bif (!(!r0.1)) then
   match decide_find (s.1, s.2.1.1, ()) with
   | none => none
   | some r1 =>
    decide_Reserve_j0 (s.1, (decide ((r1.1 : Int) ≥ (0 : Int))), s.2.1, ())
  else
   decide_Reserve_j0 (s.1, true, s.2.1, ())
def slices_Grow_api_Hold_api_Hold (s : (Int) × Unit) : Option ((List (api_Hold)) × Unit) :=
 bif (decide ((s.1 : Int) < (0 : Int))) then
  none
 else
  let t0 : Int := (IntKind.i64.wrap ((0 : Int) - (0 : Int)))
  let t1 : Bool := (decide (((IntKind.i64.wrap (s.1 - t0)) : Int) > (0 : Int)))
  bif t1 then
   bif (decide ((0 : Int) < (IntKind.i64.wrap (s.1 - t0))) && decide ((IntKind.i64.wrap (s.1 - t0)) * (40 : Int) ≤ (roomMax : Int))) then
    bif (decide (((0 : Int) : Int) ≤ (List.length (List.replicate (Int.toNat (IntKind.i64.wrap (s.1 - t0))) ((0 : Int), (([] : List UInt8), (((0 : Int), ((0 : Int), ())), ())))) : Int))) then
     let t2 : List (api_Hold) := (List.take 0 (List.replicate (Int.toNat (IntKind.i64.wrap (s.1 - t0))) ((0 : Int), (([] : List UInt8), (((0 : Int), ((0 : Int), ())), ())))))
     some (t2, ())
    else
     none
   else
    none
  else
   some (([] : List (api_Hold)), ())
def slices_Concat_api_Hold_api_Hold_b0 (s : (List (List (api_Hold))) × (Int) × (List (List (api_Hold))) × (Int) × (Int) × Unit) : Option (((List (List (api_Hold))) × (Int) × (List (List (api_Hold))) × (Int) × (Int) × Unit) ⊕ (((List (List (api_Hold))) × (Int) × Unit) ⊕ (Unit))) :=
 let t0 : Bool := (decide ((s.2.2.2.2.1 : Int) < s.2.2.2.1))
 bif t0 then
  bif (decide ((0 : Int) ≤ s.2.2.2.2.1) && decide ((s.2.2.2.2.1 : Int) < (List.length s.2.2.1 : Int))) then
   let t1 : List (api_Hold) := (List.getD s.2.2.1 (Int.toNat s.2.2.2.2.1) ([] : List (api_Hold)))
   let t2 : Int := (IntKind.i64.wrap (s.2.1 + ((List.length t1) : Int)))
   bif (decide ((t2 : Int) < (0 : Int))) then
    none
   else
    let t3 : Int := (IntKind.i64.wrap (s.2.2.2.2.1 + (1 : Int)))
    some (.inl (s.1, t2, s.2.2.1, s.2.2.2.1, t3, ()))
  else
   none
 else
  some (.inr (.inl (s.1, s.2.1, ())))
def slices_Concat_api_Hold_api_Hold_l0 (s : (List (List (api_Hold))) × (Int) × (List (List (api_Hold))) × (Int) × (Int) × Unit) : Option (((List (List (api_Hold))) × (Int) × Unit) ⊕ (Unit)) := loopO (slices_Concat_api_Hold_api_Hold_b0) s
def slices_Concat_api_Hold_api_Hold_b1 (s : (List (List (api_Hold))) × (Int) × (Int) × (List (api_Hold)) × Unit) : Option (((List (List (api_Hold))) × (Int) × (Int) × (List (api_Hold)) × Unit) ⊕ (((List (api_Hold)) × Unit) ⊕ (Unit))) :=
 bif (decide ((s.2.2.1 : Int) < s.2.1)) then
  bif (decide ((0 : Int) ≤ s.2.2.1) && decide ((s.2.2.1 : Int) < (List.length s.1 : Int))) then
   let t0 : List (api_Hold) := (List.getD s.1 (Int.toNat s.2.2.1) ([] : List (api_Hold)))
   bif (decide ((List.length s.2.2.2.1 + List.length t0) * 40 ≤ roomMax)) then
    some (.inl (s.1, s.2.1, (IntKind.i64.wrap (s.2.2.1 + (1 : Int))), (s.2.2.2.1 ++ t0), ()))
   else
    none
  else
   none
 else
  some (.inr (.inl (s.2.2.2.1, ())))
def slices_Concat_api_Hold_api_Hold_l1 (s : (List (List (api_Hold))) × (Int) × (Int) × (List (api_Hold)) × Unit) : Option (((List (api_Hold)) × Unit) ⊕ (Unit)) := loopO (slices_Concat_api_Hold_api_Hold_b1) s
def slices_Concat_api_Hold_api_Hold (s : (List (List (api_Hold))) × Unit) : Option ((List (api_Hold)) × Unit) :=
 match slices_Concat_api_Hold_api_Hold_l0 (s.1, (0 : Int), s.1, ((List.length s.1) : Int), (0 : Int), ()) with
 | none => none
 | some (.inl z0) =>
  match slices_Grow_api_Hold_api_Hold (z0.2.1, ()) with
  | none => none
  | some r1 =>
   match slices_Concat_api_Hold_api_Hold_l1 (z0.1, ((List.length z0.1) : Int), (0 : Int), r1.1, ()) with
   | none => none
   | some (.inl z2) =>
    some (z2.1, ())
   | some (.inr z2) =>
    none
 | some (.inr z0) =>
  none
def decide_Release (s : (List (api_Hold)) × (Int) × Unit) : Option ((List (api_Hold)) × (Int) × Unit) :=
 match decide_find (s.1, s.2.1, ()) with
 | none => none
 | some r0 =>
  bif (decide ((r0.1 : Int) < (0 : Int))) then
   some (s.1, (220 : Int), ())
  else
   bif (decide (((0 : Int) : Int) ≤ r0.1) && decide ((r0.1 : Int) ≤ (List.length s.1 : Int))) then
    let t1 : List (api_Hold) := (List.drop 0 (List.take (Int.toNat r0.1) s.1))
    bif (decide ((0 : Int) ≤ (IntKind.i64.wrap (r0.1 + (1 : Int)))) && decide (((IntKind.i64.wrap (r0.1 + (1 : Int))) : Int) ≤ (List.length s.1 : Int)) && decide (((List.length s.1 : Int) : Int) ≤ (List.length s.1 : Int))) then
     let t2 : List (api_Hold) := (List.drop (Int.toNat (IntKind.i64.wrap (r0.1 + (1 : Int)))) (List.take (Int.toNat (List.length s.1 : Int)) s.1))
     match slices_Concat_api_Hold_api_Hold (([t1, t2] : List (List (api_Hold))), ()) with
     | none => none
     | some r3 =>
      some (r3.1, (0 : Int), ())
    else
     none
   else
    none
def tree_Height_b0 (s : (Int) × (api_Tree) × (api_Node) × Unit) : Option (((Int) × (api_Tree) × (api_Node) × Unit) ⊕ (((Int) × Unit) ⊕ (Unit))) :=
 match tree_leaf (s.2.2.1, ()) with
 | none => none
 | some r0 =>
  bif (!r0.1) then
   bif (decide (((0 : Int) : Int) < (List.length s.2.2.1.2.2.1 : Int))) then
    match pool_Get (s.2.1.1, (List.getD s.2.2.1.2.2.1 0 (0 : Int)), ()) with
    | none => none
    | some r1 =>
     some (.inl ((IntKind.i64.wrap (s.1 + (1 : Int))), s.2.1, r1.1, ()))
   else
    none
  else
   some (.inr (.inl (s.1, ())))
def tree_Height_l0 (s : (Int) × (api_Tree) × (api_Node) × Unit) : Option (((Int) × Unit) ⊕ (Unit)) := loopO (tree_Height_b0) s
def tree_Height (s : (api_Tree) × Unit) : Option ((Int) × Unit) :=
 match pool_Get (s.1.1, s.1.2.1, ()) with
 | none => none
 | some r0 =>
  match tree_Height_l0 ((1 : Int), s.1, r0.1, ()) with
  | none => none
  | some (.inl z1) =>
   some (z1.1, ())
  | some (.inr z1) =>
   none
def path_Under (s : api_Span) : Option ((Bool) × Unit) :=
 match strings_HasPrefix (s.1, s.2.1, ()) with
 | none => none
 | some r0 =>
  some (r0.1, ())
def decide_holds_room_b0 (s : (List (api_Hold)) × (Int) × (Int) × (api_Quota) × (Int) × (Int) × (api_Use) × Unit) : Option (((List (api_Hold)) × (Int) × (Int) × (api_Quota) × (Int) × (Int) × (api_Use) × Unit) ⊕ (((Int) × (Int) × (api_Use) × Unit) ⊕ (Unit))) :=
 bif (decide ((s.2.2.1 : Int) < s.2.1)) then
  bif (decide ((0 : Int) ≤ s.2.2.1) && decide ((s.2.2.1 : Int) < (List.length s.1 : Int))) then
   let t0 : api_Hold := (List.getD s.1 (Int.toNat s.2.2.1) ((0 : Int), (([] : List UInt8), (((0 : Int), ((0 : Int), ())), ()))))
   match path_Under (t0.2.1, s.2.2.2.1.1, ()) with
   | none => none
   | some r1 =>
    bif r1.1 then
     let t2 : Int := (IntKind.i64.wrap (s.2.2.2.2.2.2.1.1 - t0.2.2.1.1))
     let t3 : Int := (IntKind.i64.wrap (s.2.2.2.2.2.2.1.2.1 - t0.2.2.1.2.1))
     some (.inl (s.1, s.2.1, (IntKind.i64.wrap (s.2.2.1 + (1 : Int))), s.2.2.2.1, s.2.2.2.2.1, s.2.2.2.2.2.1, (t2, (t3, ())), ()))
    else
     some (.inl (s.1, s.2.1, (IntKind.i64.wrap (s.2.2.1 + (1 : Int))), s.2.2.2.1, s.2.2.2.2.1, s.2.2.2.2.2.1, s.2.2.2.2.2.2.1, ()))
  else
   none
 else
  some (.inr (.inl (s.2.2.2.2.1, s.2.2.2.2.2.1, s.2.2.2.2.2.2.1, ())))
def decide_holds_room_l0 (s : (List (api_Hold)) × (Int) × (Int) × (api_Quota) × (Int) × (Int) × (api_Use) × Unit) : Option (((Int) × (Int) × (api_Use) × Unit) ⊕ (Unit)) := loopO (decide_holds_room_b0) s
def decide_holds_room (s : (List (api_Hold)) × (api_Quota) × Unit) : Option (quota_amount) :=
 match decide_holds_room_l0 (s.1, ((List.length s.1) : Int), (0 : Int), s.2.1, (0 : Int), (0 : Int), s.2.1.2.1, ()) with
 | none => none
 | some (.inl z0) =>
  some (z0.2.2.1, ())
 | some (.inr z0) =>
  none
def bound_list_hasC1 (s : (api_Span) × (List UInt8) × Unit) : Option ((Bool) × (List UInt8) × Unit) :=
 match span_Has (s.1, s.2.1, ()) with
 | none => none
 | some r0 =>
  some (r0.1, s.2.1, ())
def slices_IndexFunc_bound_list_api_Span_b0 (s : (List (api_Span)) × (Int) × (Int) × (List UInt8) × Unit) : Option (((List (api_Span)) × (Int) × (Int) × (List UInt8) × Unit) ⊕ (((Int) × (List UInt8) × Unit) ⊕ ((List UInt8) × Unit))) :=
 bif (decide ((s.2.2.1 : Int) < s.2.1)) then
  bif (decide ((0 : Int) ≤ s.2.2.1) && decide ((s.2.2.1 : Int) < (List.length s.1 : Int))) then
   let t0 : api_Span := (List.getD s.1 (Int.toNat s.2.2.1) (([] : List UInt8), (([] : List UInt8), ())))
   match bound_list_hasC1 (t0, s.2.2.2.1, ()) with
   | none => none
   | some r1 =>
    bif r1.1 then
     some (.inr (.inl (s.2.2.1, r1.2.1, ())))
    else
     some (.inl (s.1, s.2.1, (IntKind.i64.wrap (s.2.2.1 + (1 : Int))), r1.2.1, ()))
  else
   none
 else
  some (.inr (.inr (s.2.2.2.1, ())))
def slices_IndexFunc_bound_list_api_Span_l0 (s : (List (api_Span)) × (Int) × (Int) × (List UInt8) × Unit) : Option (((Int) × (List UInt8) × Unit) ⊕ ((List UInt8) × Unit)) := loopO (slices_IndexFunc_bound_list_api_Span_b0) s
def slices_IndexFunc_bound_list_api_Span (s : (List (api_Span)) × (List UInt8) × Unit) : Option ((Int) × (List UInt8) × Unit) :=
 match slices_IndexFunc_bound_list_api_Span_l0 (s.1, ((List.length s.1) : Int), (0 : Int), s.2.1, ()) with
 | none => none
 | some (.inl z0) =>
  some (z0.1, z0.2.1, ())
 | some (.inr z0) =>
  some ((-1 : Int), z0.1, ())
def slices_ContainsFunc_bound_list_api_Span (s : (List (api_Span)) × (List UInt8) × Unit) : Option ((Bool) × (List UInt8) × Unit) :=
 match slices_IndexFunc_bound_list_api_Span (s.1, s.2.1, ()) with
 | none => none
 | some r0 =>
  some ((decide ((r0.1 : Int) ≥ (0 : Int))), r0.2.1, ())
def bound_list_has (s : (List (api_Span)) × (List UInt8) × Unit) : Option ((Bool) × Unit) :=
 match slices_ContainsFunc_bound_list_api_Span (s.1, s.2.1, ()) with
 | none => none
 | some r0 =>
  some (r0.1, ())
def strings_IndexByte (s : runtime_errorAddressString) : Option ((Int) × Unit) :=
 match internal_stringslite_IndexByte (s.1, s.2.1, ()) with
 | none => none
 | some r0 =>
  some (r0.1, ())
def unicode_utf8_ValidRune (s : (Int) × Unit) : Option ((Bool) × Unit) :=
 bif (decide (((0 : Int) : Int) ≤ s.1)) then
  bif (decide ((s.1 : Int) < (55296 : Int))) then
   some (true, ())
  else
   bif (decide (((57343 : Int) : Int) < s.1)) then
    bif (decide ((s.1 : Int) ≤ (1114111 : Int))) then
     some (true, ())
    else
     some (false, ())
   else
    some (false, ())
 else
  bif (decide (((57343 : Int) : Int) < s.1)) then
   bif (decide ((s.1 : Int) ≤ (1114111 : Int))) then
    some (true, ())
   else
    some (false, ())
  else
   some (false, ())
def strings_IndexRune_b0 (s : runtime_errorAddressString) : Option ((runtime_errorAddressString) ⊕ (((Int) × Unit) ⊕ (Unit))) :=
 bif (decide ((s.2.1 : Int) < (List.length s.1 : Int))) then
  let t0 : Bool := (decide (((runeAt s.1 s.2.1).1 : Int) = (65533 : Int)))
  bif t0 then
   some (.inr (.inl (s.2.1, ())))
  else
   some (.inl (s.1, (s.2.1 + (runeAt s.1 s.2.1).2), ()))
 else
  some (.inr (.inr (())))
def strings_IndexRune_l0 (s : runtime_errorAddressString) : Option (((Int) × Unit) ⊕ (Unit)) := loopO (strings_IndexRune_b0) s
def strings_IndexRune_j0 (s : (List UInt8) × (Int) × (Bool) × Unit) : Option ((Int) × Unit) :=
 bif s.2.2.1 then
  match strings_IndexByte (s.1, (IntKind.u8.wrap s.2.1), ()) with
  | none => none
  | some r0 =>
   some (r0.1, ())
 else
  bif (decide ((s.2.1 : Int) = (65533 : Int))) then
   match strings_IndexRune_l0 (s.1, (0 : Int), ()) with
   | none => none
   | some (.inl z0) =>
    some (z0.1, ())
   | some (.inr z0) =>
    some ((-1 : Int), ())
  else
   match unicode_utf8_ValidRune (s.2.1, ()) with
   | none => none
   | some r0 =>
    bif (!r0.1) then
     some ((-1 : Int), ())
    else
     none

def strings_IndexRune (s : runtime_errorAddressString) : Option ((Int) × Unit) :=
 bif (decide (((0 : Int) : Int) ≤ s.2.1)) then
  strings_IndexRune_j0 (s.1, s.2.1, (decide ((s.2.1 : Int) < (128 : Int))), ())
 else
  strings_IndexRune_j0 (s.1, s.2.1, false, ())
def strings_shouldUseASCIISet (s : (Int) × Unit) : Option ((Bool) × Unit) :=
 some ((decide ((s.1 : Int) > (8 : Int))), ())
def strings_IndexAny_s_b1 (s : api_Pair) : Option ((api_Pair) ⊕ (((Int) × Unit) ⊕ (Unit))) :=
 bif (decide ((s.2.2.1 : Int) < (List.length s.2.1 : Int))) then
  match strings_IndexRune (s.1, (runeAt s.2.1 s.2.2.1).1, ()) with
  | none => none
  | some r0 =>
   bif (decide ((r0.1 : Int) ≥ (0 : Int))) then
    some (.inr (.inl (s.2.2.1, ())))
   else
    some (.inl (s.1, s.2.1, (s.2.2.1 + (runeAt s.2.1 s.2.2.1).2), ()))
 else
  some (.inr (.inr (())))
def strings_IndexAny_s_l1 (s : api_Pair) : Option (((Int) × Unit) ⊕ (Unit)) := loopO (strings_IndexAny_s_b1) s
def strings_IndexAny_s (s : api_Span) : Option ((Int) × Unit) :=
 let t0 : Bool := (decide ((s.2.1 : List UInt8) = ([] : List UInt8)))
 bif t0 then
  some ((-1 : Int), ())
 else
  let t1 : Bool := (decide ((((List.length s.2.1) : Int) : Int) = (1 : Int)))
  bif t1 then
   bif (decide (((0 : Int) : Int) < (List.length s.2.1 : Int))) then
    let t2 : Int := (IntKind.i32.wrap ((List.getD s.2.1 0 0).toNat : Int))
    bif (decide ((t2 : Int) ≥ (128 : Int))) then
     match strings_IndexRune (s.1, (65533 : Int), ()) with
     | none => none
     | some r3 =>
      some (r3.1, ())
    else
     match strings_IndexRune (s.1, t2, ()) with
     | none => none
     | some r3 =>
      some (r3.1, ())
   else
    none
  else
   match strings_shouldUseASCIISet (((List.length s.1) : Int), ()) with
   | none => none
   | some r2 =>
    bif r2.1 then
     none
    else
     match strings_IndexAny_s_l1 (s.2.1, s.1, (0 : Int), ()) with
     | none => none
     | some (.inl z3) =>
      some (z3.1, ())
     | some (.inr z3) =>
      some ((-1 : Int), ())
def strings_IndexAny (s : api_Span) : Option ((Int) × Unit) := orE (strings_IndexAny_s s) (anyLong s)
def path_rest_upTo (s : (List UInt8) × (List UInt8) × (Int) × (Int) × (List UInt8) × Unit) : Option ((List UInt8) × (Int) × (List UInt8) × (List UInt8) × (Int) × (Int) × (List UInt8) × Unit) :=
 match strings_IndexAny (s.1, ([1, 2, 3] : List UInt8), ()) with
 | none => none
 | some r0 =>
  bif (decide ((r0.1 : Int) < (0 : Int))) then
   some (([] : List UInt8), (0 : Int), s.1, s.2.1, s.2.2.1, s.2.2.2.1, s.2.2.2.2.1, ())
  else
   bif (decide (((0 : Int) : Int) ≤ r0.1) && decide ((r0.1 : Int) ≤ (List.length s.1 : Int))) then
    let t1 : List UInt8 := (List.drop 0 (List.take (Int.toNat r0.1) s.1))
    bif (decide ((0 : Int) ≤ r0.1) && decide ((r0.1 : Int) < (List.length s.1 : Int))) then
     let t2 : Int := ((List.getD s.1 (Int.toNat r0.1) 0).toNat : Int)
     bif (decide ((0 : Int) ≤ (IntKind.i64.wrap (r0.1 + (1 : Int)))) && decide (((IntKind.i64.wrap (r0.1 + (1 : Int))) : Int) ≤ (List.length s.1 : Int)) && decide (((List.length s.1 : Int) : Int) ≤ (List.length s.1 : Int))) then
      let t3 : List UInt8 := (List.drop (Int.toNat (IntKind.i64.wrap (r0.1 + (1 : Int)))) (List.take (Int.toNat (List.length s.1 : Int)) s.1))
      some (t1, t2, t3, s.2.1, s.2.2.1, s.2.2.2.1, s.2.2.2.2.1, ())
     else
      none
    else
     none
   else
    none
def path_place_read_j1 (s : (Int) × (Bool) × (List UInt8) × (List UInt8) × (Int) × (Int) × (List UInt8) × Unit) : Option ((List UInt8) × (List UInt8) × (Int) × (Int) × (List UInt8) × Unit) :=
 bif s.2.1 then
  bif (decide (((0 : Int) : Int) < (List.length s.2.2.1 : Int))) then
   let t0 : Int := (IntKind.i64.wrap ((List.getD s.2.2.1 0 0).toNat : Int))
   let t1 : Int := (IntKind.i64.wrap (t0 * 2 ^ (min (Int.toNat (8 : Int)) IntKind.i64.bits)))
   bif (decide (((1 : Int) : Int) < (List.length s.2.2.1 : Int))) then
    let t2 : Int := ((List.getD s.2.2.1 (Int.toNat (1 : Int)) 0).toNat : Int)
    let t3 : Int := (IntKind.i64.wrap ((BitVec.ofInt IntKind.i64.bits t1 ||| BitVec.ofInt IntKind.i64.bits (IntKind.i64.wrap t2)).toNat : Int))
    some (s.2.2.1, s.2.2.2.1, s.2.2.2.2.1, t3, s.2.2.2.2.2.2.1, ())
   else
    none
  else
   none
 else
  bif (decide ((s.1 : Int) = (3 : Int))) then
   some (s.2.2.1, s.2.2.2.1, s.2.2.2.2.1, s.2.2.2.2.2.1, s.2.2.1, ())
  else
   some (s.2.2.1, s.2.2.2.1, s.2.2.2.2.1, s.2.2.2.2.2.1, s.2.2.2.2.2.2.1, ())
def path_place_read_j0 (s : (Int) × (Bool) × (List UInt8) × (List UInt8) × (Int) × (Int) × (List UInt8) × Unit) : Option ((List UInt8) × (List UInt8) × (Int) × (Int) × (List UInt8) × Unit) :=
 bif s.2.1 then
  some (s.2.2.1, s.2.2.2.1, (4 : Int), s.2.2.2.2.2.1, s.2.2.2.2.2.2.1, ())
 else
  bif (decide ((s.1 : Int) = (2 : Int))) then
   let t0 : Bool := (decide ((((List.length s.2.2.1) : Int) : Int) = (2 : Int)))
   path_place_read_j1 (s.1, t0, s.2.2.1, s.2.2.2.1, s.2.2.2.2.1, s.2.2.2.2.2.1, s.2.2.2.2.2.2.1, ())
  else
   path_place_read_j1 (s.1, false, s.2.2.1, s.2.2.2.1, s.2.2.2.2.1, s.2.2.2.2.2.1, s.2.2.2.2.2.2.1, ())

def path_place_read (s : (List UInt8) × (List UInt8) × (Int) × (Int) × (List UInt8) × Unit) : Option ((List UInt8) × (List UInt8) × (Int) × (Int) × (List UInt8) × Unit) :=
 match strings_CutPrefix (s.1, ([6] : List UInt8), ()) with
 | none => none
 | some r0 =>
  match path_rest_upTo (r0.1, s.2.1, s.2.2.1, s.2.2.2.1, s.2.2.2.2.1, ()) with
  | none => none
  | some r1 =>
   bif r0.2.1 then
    path_place_read_j0 (r1.2.1, (decide ((r1.2.1 : Int) = (1 : Int))), r1.2.2.1, r1.1, (IntKind.i64.wrap r1.2.1), r1.2.2.2.2.2.1, r1.2.2.2.2.2.2.1, ())
   else
    path_place_read_j0 (r1.2.1, false, r1.2.2.1, r1.1, (IntKind.i64.wrap r1.2.1), r1.2.2.2.2.2.1, r1.2.2.2.2.2.2.1, ())
def strings_trimRightByte_b0_j0 (s : (List UInt8) × (Int) × (Bool) × Unit) : Option ((runtime_errorAddressString) ⊕ (((List UInt8) × Unit) ⊕ (Unit))) :=
 bif s.2.2.1 then
  let t0 : Int := (IntKind.i64.wrap (((List.length s.1) : Int) - (1 : Int)))
  bif (decide (((0 : Int) : Int) ≤ t0) && decide ((t0 : Int) ≤ (List.length s.1 : Int))) then
   let t1 : List UInt8 := (List.drop 0 (List.take (Int.toNat t0) s.1))
   some (.inl (t1, s.2.1, ()))
  else
   none
 else
  some (.inr (.inl (s.1, ())))

def strings_trimRightByte_b0 (s : runtime_errorAddressString) : Option ((runtime_errorAddressString) ⊕ (((List UInt8) × Unit) ⊕ (Unit))) :=
 let t0 : Bool := (decide ((((List.length s.1) : Int) : Int) > (0 : Int)))
 bif t0 then
  let t1 : Int := (IntKind.i64.wrap (((List.length s.1) : Int) - (1 : Int)))
  bif (decide ((0 : Int) ≤ t1) && decide ((t1 : Int) < (List.length s.1 : Int))) then
   let t2 : Int := ((List.getD s.1 (Int.toNat t1) 0).toNat : Int)
   strings_trimRightByte_b0_j0 (s.1, s.2.1, (decide ((t2 : Int) = s.2.1)), ())
  else
   none
 else
  strings_trimRightByte_b0_j0 (s.1, s.2.1, false, ())
def strings_trimRightByte_l0 (s : runtime_errorAddressString) : Option (((List UInt8) × Unit) ⊕ (Unit)) := loopO (strings_trimRightByte_b0) s
def strings_trimRightByte (s : runtime_errorAddressString) : Option ((List UInt8) × Unit) :=
 match strings_trimRightByte_l0 (s.1, s.2.1, ()) with
 | none => none
 | some (.inl z0) =>
  some (z0.1, ())
 | some (.inr z0) =>
  none
def strings_trimLeftByte_b0_j0 (s : (List UInt8) × (Int) × (Bool) × Unit) : Option ((runtime_errorAddressString) ⊕ (((List UInt8) × Unit) ⊕ (Unit))) :=
 bif s.2.2.1 then
  bif (decide (((1 : Int) : Int) ≤ (List.length s.1 : Int)) && decide (((List.length s.1 : Int) : Int) ≤ (List.length s.1 : Int))) then
   let t0 : List UInt8 := (List.drop (Int.toNat (1 : Int)) (List.take (Int.toNat (List.length s.1 : Int)) s.1))
   some (.inl (t0, s.2.1, ()))
  else
   none
 else
  some (.inr (.inl (s.1, ())))

def strings_trimLeftByte_b0 (s : runtime_errorAddressString) : Option ((runtime_errorAddressString) ⊕ (((List UInt8) × Unit) ⊕ (Unit))) :=
 let t0 : Bool := (decide ((((List.length s.1) : Int) : Int) > (0 : Int)))
 bif t0 then
  bif (decide (((0 : Int) : Int) < (List.length s.1 : Int))) then
   let t1 : Bool := (decide ((((List.getD s.1 0 0).toNat : Int) : Int) = s.2.1))
   strings_trimLeftByte_b0_j0 (s.1, s.2.1, t1, ())
  else
   none
 else
  strings_trimLeftByte_b0_j0 (s.1, s.2.1, false, ())
def strings_trimLeftByte_l0 (s : runtime_errorAddressString) : Option (((List UInt8) × Unit) ⊕ (Unit)) := loopO (strings_trimLeftByte_b0) s
def strings_trimLeftByte (s : runtime_errorAddressString) : Option ((List UInt8) × Unit) :=
 match strings_trimLeftByte_l0 (s.1, s.2.1, ()) with
 | none => none
 | some (.inl z0) =>
  some (z0.1, ())
 | some (.inr z0) =>
  none
def strings_Trim_s_j1 (s : (List UInt8) × (List UInt8) × (Bool) × Unit) : Option ((List UInt8) × Unit) :=
 bif s.2.2.1 then
  bif (decide (((0 : Int) : Int) < (List.length s.2.1 : Int))) then
   match strings_trimRightByte (s.1, ((List.getD s.2.1 0 0).toNat : Int), ()) with
   | none => none
   | some r0 =>
    bif (decide (((0 : Int) : Int) < (List.length s.2.1 : Int))) then
     match strings_trimLeftByte (r0.1, ((List.getD s.2.1 0 0).toNat : Int), ()) with
     | none => none
     | some r1 =>
      some (r1.1, ())
    else
     none
  else
   none
 else
  none
def strings_Trim_s_j0 (s : (List UInt8) × (List UInt8) × (Bool) × Unit) : Option ((List UInt8) × Unit) :=
 bif s.2.2.1 then
  some (s.1, ())
 else
  let t0 : Bool := (decide ((((List.length s.2.1) : Int) : Int) = (1 : Int)))
  bif t0 then
   bif (decide (((0 : Int) : Int) < (List.length s.2.1 : Int))) then
    let t1 : Bool := (decide ((((List.getD s.2.1 0 0).toNat : Int) : Int) < (128 : Int)))
    strings_Trim_s_j1 (s.1, s.2.1, t1, ())
   else
    none
  else
   strings_Trim_s_j1 (s.1, s.2.1, false, ())

def strings_Trim_s (s : api_Span) : Option ((List UInt8) × Unit) :=
 let t0 : Bool := (decide ((s.1 : List UInt8) = ([] : List UInt8)))
 bif (!t0) then
  let t1 : Bool := (decide ((s.2.1 : List UInt8) = ([] : List UInt8)))
  strings_Trim_s_j0 (s.1, s.2.1, t1, ())
 else
  strings_Trim_s_j0 (s.1, s.2.1, true, ())
def strings_Trim (s : api_Span) : Option ((List UInt8) × Unit) := orE (strings_Trim_s s) (trimLong s)
def path_isBody_j0 (s : (List UInt8) × (Bool) × Unit) : Option ((Bool) × Unit) :=
 bif s.2.1 then
  some (false, ())
 else
  bif (decide (((9 : Int) : Int) ≤ (List.length s.1 : Int))) then
   let t0 : List UInt8 := (List.drop (Int.toNat (1 : Int)) (List.take (Int.toNat (9 : Int)) s.1))
   match strings_Trim (t0, ([48, 49, 50, 51, 52, 53, 54, 55, 56, 57, 97, 98, 99, 100, 101, 102] : List UInt8), ()) with
   | none => none
   | some r1 =>
    let t2 : Bool := (decide ((r1.1 : List UInt8) = ([] : List UInt8)))
    some (t2, ())
  else
   none

def path_isBody (s : (List UInt8) × Unit) : Option ((Bool) × Unit) :=
 let t0 : Bool := (!decide ((((List.length s.1) : Int) : Int) = (10 : Int)))
 bif (!t0) then
  bif (decide (((0 : Int) : Int) < (List.length s.1 : Int))) then
   let t1 : Bool := (!decide ((((List.getD s.1 0 0).toNat : Int) : Int) = (5 : Int)))
   bif (!t1) then
    bif (decide (((1 : Int) : Int) < (List.length s.1 : Int))) then
     let t2 : Int := ((List.getD s.1 (Int.toNat (1 : Int)) 0).toNat : Int)
     bif (!(decide ((t2 : Int) > (55 : Int)))) then
      bif (decide (((9 : Int) : Int) < (List.length s.1 : Int))) then
       let t3 : Int := ((List.getD s.1 (Int.toNat (9 : Int)) 0).toNat : Int)
       path_isBody_j0 (s.1, (!decide ((t3 : Int) = (47 : Int))), ())
      else
       none
     else
      path_isBody_j0 (s.1, true, ())
    else
     none
   else
    path_isBody_j0 (s.1, true, ())
  else
   none
 else
  path_isBody_j0 (s.1, true, ())
def path_Key_c100010 (s : (Bool) × (api_Place) × Unit) : Option ((Unit) ⊕ (runtime_errorAddressString)) :=
 bif s.1 then
  bif (decide (List.length ([6] : List UInt8) + List.length s.2.1.1 ≤ roomMax)) then
   bif (decide (List.length (([6] : List UInt8) ++ s.2.1.1) + List.length ([1] : List UInt8) ≤ roomMax)) then
    let t0 : List UInt8 := ((([6] : List UInt8) ++ s.2.1.1) ++ ([1] : List UInt8))
    some (.inr (t0, (0 : Int), ()))
   else
    none
  else
   none
 else
  some (.inl (()))
def path_Key_c100008 (s : (Bool) × (api_Place) × (List UInt8) × (Int) × (Int) × (List UInt8) × Unit) : Option ((Unit) ⊕ (runtime_errorAddressString)) :=
 bif s.1 then
  bif (decide (List.length s.2.1.1 + List.length ([3] : List UInt8) ≤ roomMax)) then
   bif (decide (List.length (s.2.1.1 ++ ([3] : List UInt8)) + List.length s.2.1.2.2.2.1 ≤ roomMax)) then
    let t0 : List UInt8 := ((s.2.1.1 ++ ([3] : List UInt8)) ++ s.2.1.2.2.2.1)
    some (.inr (t0, (0 : Int), ()))
   else
    none
  else
   none
 else
  bif (decide ((s.2.1.2.1 : Int) = (4 : Int))) then
   let t0 : Bool := (Ty.eqb tapi_Place s.2.1 (s.2.2.1, (s.2.2.2.1, (s.2.2.2.2.1, (s.2.2.2.2.2.1, ())))))
   match path_Key_c100010 (t0, s.2.1, ()) with
   | none => none
   | some (.inl z1) =>
    some (.inl (()))
   | some (.inr z1) =>
    some (.inr (z1.1, z1.2.1, ()))
  else
   match path_Key_c100010 (false, s.2.1, ()) with
   | none => none
   | some (.inl z0) =>
    some (.inl (()))
   | some (.inr z0) =>
    some (.inr (z0.1, z0.2.1, ()))
def path_Key_c100006 (s : (Bool) × (api_Place) × (List UInt8) × (Int) × (Int) × (List UInt8) × Unit) : Option ((Unit) ⊕ (runtime_errorAddressString)) :=
 bif s.1 then
  let t0 : Int := (Int.fdiv s.2.1.2.2.1 (2 ^ (min (Int.toNat (8 : Int)) IntKind.i64.bits)))
  let t1 : List UInt8 := (sOfBytes ([(2 : Int), (IntKind.u8.wrap t0), (IntKind.u8.wrap s.2.1.2.2.1)] : List (Int)))
  bif (decide (List.length s.2.1.1 + List.length t1 ≤ roomMax)) then
   some (.inr ((s.2.1.1 ++ t1), (0 : Int), ()))
  else
   none
 else
  bif (decide ((s.2.1.2.1 : Int) = (3 : Int))) then
   let t0 : Bool := (decide ((s.2.1.2.2.1 : Int) = (0 : Int)))
   bif t0 then
    match path_isName (s.2.1.2.2.2.1, ()) with
    | none => none
    | some r1 =>
     match path_Key_c100008 (r1.1, s.2.1, s.2.2.1, s.2.2.2.1, s.2.2.2.2.1, s.2.2.2.2.2.1, ()) with
     | none => none
     | some (.inl z2) =>
      some (.inl (()))
     | some (.inr z2) =>
      some (.inr (z2.1, z2.2.1, ()))
   else
    match path_Key_c100008 (false, s.2.1, s.2.2.1, s.2.2.2.1, s.2.2.2.2.1, s.2.2.2.2.2.1, ()) with
    | none => none
    | some (.inl z1) =>
     some (.inl (()))
    | some (.inr z1) =>
     some (.inr (z1.1, z1.2.1, ()))
  else
   match path_Key_c100008 (false, s.2.1, s.2.2.1, s.2.2.2.1, s.2.2.2.2.1, s.2.2.2.2.2.1, ()) with
   | none => none
   | some (.inl z0) =>
    some (.inl (()))
   | some (.inr z0) =>
    some (.inr (z0.1, z0.2.1, ()))
def path_Key_c100004 (s : (Bool) × (api_Place) × (List UInt8) × (Int) × (Int) × (List UInt8) × Unit) : Option ((Unit) ⊕ (runtime_errorAddressString)) :=
 bif s.1 then
  bif (decide (List.length s.2.1.1 + List.length ([1] : List UInt8) ≤ roomMax)) then
   some (.inr ((s.2.1.1 ++ ([1] : List UInt8)), (0 : Int), ()))
  else
   none
 else
  bif (decide ((s.2.1.2.1 : Int) = (2 : Int))) then
   let t0 : Bool := (decide ((s.2.1.2.2.2.1 : List UInt8) = ([] : List UInt8)))
   bif t0 then
    let t1 : Bool := (decide ((s.2.1.2.2.1 : Int) ≥ (0 : Int)))
    bif t1 then
     let t2 : Bool := (decide ((s.2.1.2.2.1 : Int) ≤ (60000 : Int)))
     match path_Key_c100006 (t2, s.2.1, s.2.2.1, s.2.2.2.1, s.2.2.2.2.1, s.2.2.2.2.2.1, ()) with
     | none => none
     | some (.inl z3) =>
      some (.inl (()))
     | some (.inr z3) =>
      some (.inr (z3.1, z3.2.1, ()))
    else
     match path_Key_c100006 (false, s.2.1, s.2.2.1, s.2.2.2.1, s.2.2.2.2.1, s.2.2.2.2.2.1, ()) with
     | none => none
     | some (.inl z2) =>
      some (.inl (()))
     | some (.inr z2) =>
      some (.inr (z2.1, z2.2.1, ()))
   else
    match path_Key_c100006 (false, s.2.1, s.2.2.1, s.2.2.2.1, s.2.2.2.2.1, s.2.2.2.2.2.1, ()) with
    | none => none
    | some (.inl z1) =>
     some (.inl (()))
    | some (.inr z1) =>
     some (.inr (z1.1, z1.2.1, ()))
  else
   match path_Key_c100006 (false, s.2.1, s.2.2.1, s.2.2.2.1, s.2.2.2.2.1, s.2.2.2.2.2.1, ()) with
   | none => none
   | some (.inl z0) =>
    some (.inl (()))
   | some (.inr z0) =>
    some (.inr (z0.1, z0.2.1, ()))
def path_Key_c300003 (s : (Bool) × (api_Place) × (List UInt8) × (Int) × (Int) × (List UInt8) × Unit) : Option ((Unit) ⊕ (runtime_errorAddressString)) :=
 bif s.1 then
  bif (decide ((s.2.1.2.1 : Int) = (1 : Int))) then
   let t0 : Bool := (Ty.eqb tapi_Place s.2.1 (s.2.2.1, (s.2.2.2.1, (s.2.2.2.2.1, (s.2.2.2.2.2.1, ())))))
   match path_Key_c100004 (t0, s.2.1, s.2.2.1, s.2.2.2.1, s.2.2.2.2.1, s.2.2.2.2.2.1, ()) with
   | none => none
   | some (.inl z1) =>
    some (.inl (()))
   | some (.inr z1) =>
    some (.inr (z1.1, z1.2.1, ()))
  else
   match path_Key_c100004 (false, s.2.1, s.2.2.1, s.2.2.2.1, s.2.2.2.2.1, s.2.2.2.2.2.1, ()) with
   | none => none
   | some (.inl z0) =>
    some (.inl (()))
   | some (.inr z0) =>
    some (.inr (z0.1, z0.2.1, ()))
 else
  some (.inl (()))
def path_Key (s : (api_Place) × Unit) : Option (runtime_errorAddressString) :=
 match path_Valid (s.1.1, ()) with
 | none => none
 | some r0 =>
  bif (!r0.1) then
   match path_isBody (s.1.1, ()) with
   | none => none
   | some r1 =>
    bif r1.1 then
     match path_Key_c300003 ((!decide ((s.1.2.1 : Int) = (4 : Int))), s.1, s.1.1, s.1.2.1, (0 : Int), ([] : List UInt8), ()) with
     | none => none
     | some (.inl z2) =>
      some (([] : List UInt8), (12 : Int), ())
     | some (.inr z2) =>
      some (z2.1, z2.2.1, ())
    else
     match path_Key_c300003 (false, s.1, s.1.1, s.1.2.1, (0 : Int), ([] : List UInt8), ()) with
     | none => none
     | some (.inl z2) =>
      some (([] : List UInt8), (12 : Int), ())
     | some (.inr z2) =>
      some (z2.1, z2.2.1, ())
  else
   match path_Key_c300003 (true, s.1, s.1.1, s.1.2.1, (0 : Int), ([] : List UInt8), ()) with
   | none => none
   | some (.inl z1) =>
    some (([] : List UInt8), (12 : Int), ())
   | some (.inr z1) =>
    some (z1.1, z1.2.1, ())
def path_Place (s : (List UInt8) × Unit) : Option ((api_Place) × (Int) × Unit) :=
 match path_place_read (s.1, ([] : List UInt8), (0 : Int), (0 : Int), ([] : List UInt8), ()) with
 | none => none
 | some r0 =>
  match path_Key ((r0.2.1, (r0.2.2.1, (r0.2.2.2.1, (r0.2.2.2.2.1, ())))), ()) with
  | none => none
  | some r1 =>
   bif (!(!decide ((r1.2.1 : Int) = (0 : Int)))) then
    bif (!decide ((r1.1 : List UInt8) = s.1)) then
     some ((([] : List UInt8), ((0 : Int), ((0 : Int), (([] : List UInt8), ())))), (12 : Int), ())
    else
     some ((r0.2.1, (r0.2.2.1, (r0.2.2.2.1, (r0.2.2.2.2.1, ())))), (0 : Int), ())
   else
    some ((([] : List UInt8), ((0 : Int), ((0 : Int), (([] : List UInt8), ())))), (12 : Int), ())
def entry_Charge (s : (api_Pair) × Unit) : Option (quota_amount) :=
 match path_Place (s.1.1, ()) with
 | none => none
 | some r0 =>
  bif (!decide ((r0.2.1 : Int) = (0 : Int))) then
   some (((0 : Int), ((0 : Int), ())), ())
  else
   bif (decide ((r0.1.2.1 : Int) = (1 : Int))) then
    some (((1 : Int), ((0 : Int), ())), ())
   else
    bif (decide ((r0.1.2.1 : Int) = (4 : Int))) then
     some (((0 : Int), ((0 : Int), ())), ())
    else
     some (((0 : Int), (((List.length s.1.2.1) : Int), ())), ())
def bound_grow (s : (Int) × (Int) × (Int) × (Int) × (Int) × (Int) × Unit) : Option ((Int) × (Int) × (Int) × (Int) × Unit) :=
 let t0 : Int := (if ((1000000000000000 : Int) : Int) < (IntKind.i64.wrap (s.2.2.1 + s.1)) then (1000000000000000 : Int) else (IntKind.i64.wrap (s.2.2.1 + s.1)))
 let t1 : Int := (if ((1000000000000000 : Int) : Int) < (IntKind.i64.wrap (s.2.2.2.1 + s.2.1)) then (1000000000000000 : Int) else (IntKind.i64.wrap (s.2.2.2.1 + s.2.1)))
 some (t0, t1, s.2.2.2.2.1, s.2.2.2.2.2.1, ())
def bound_grow_v2 (s : (Int) × (Int) × (Int) × (Int) × (Int) × (Int) × Unit) : Option ((Int) × (Int) × (Int) × (Int) × Unit) :=
 let t0 : Int := (if ((1000000000000000 : Int) : Int) < (IntKind.i64.wrap (s.2.2.2.2.1 + s.1)) then (1000000000000000 : Int) else (IntKind.i64.wrap (s.2.2.2.2.1 + s.1)))
 let t1 : Int := (IntKind.i64.wrap (s.2.2.2.2.2.1 + s.2.1))
 let t2 : Int := (if ((1000000000000000 : Int) : Int) < t1 then (1000000000000000 : Int) else t1)
 some (s.2.2.1, s.2.2.2.1, t0, t2, ())
def bound_bounds_use (s : (api_Use) × (Int) × (Int) × (Int) × (Int) × Unit) : Option ((Int) × (Int) × (Int) × (Int) × Unit) :=
 match bound_grow (s.1.1, s.1.1, s.2.1, s.2.2.1, s.2.2.2.1, s.2.2.2.2.1, ()) with
 | none => none
 | some r0 =>
  match bound_grow_v2 (s.1.2.1, s.1.2.1, r0.1, r0.2.1, r0.2.2.1, r0.2.2.2.1, ()) with
  | none => none
  | some r1 =>
   some (r1.1, r1.2.1, r1.2.2.1, r1.2.2.2.1, ())
def slices_Backward_api_Msg_api_Msg (s : (List (api_Msg)) × Unit) : Option ((List (api_Msg)) × Unit) :=
 some (s.1, ())
def bound_reader_of_b0_j0 (s : (List (api_Span)) × (List (api_Pair)) × (Int) × (Int) × (Int) × (Int) × (Int) × (Int) × (Int) × (Int) × (Int) × (Int) × Unit) : Option (((List (api_Span)) × (List (api_Pair)) × (Int) × (Int) × (Int) × (Int) × (Int) × (Int) × (Int) × (Int) × (Int) × (Int) × Unit) ⊕ (((Int) × (Int) × (Int) × (Int) × (Int) × (Int) × (Int) × (Int) × Unit) ⊕ (Unit))) :=
 let t0 : Int := (IntKind.i64.wrap (s.2.2.2.1 + (1 : Int)))
 some (.inl (s.1, s.2.1, s.2.2.1, t0, s.2.2.2.2.1, s.2.2.2.2.2.1, s.2.2.2.2.2.2.1, s.2.2.2.2.2.2.2.1, s.2.2.2.2.2.2.2.2.1, s.2.2.2.2.2.2.2.2.2.1, s.2.2.2.2.2.2.2.2.2.2.1, s.2.2.2.2.2.2.2.2.2.2.2.1, ()))

def bound_reader_of_b0 (s : (List (api_Span)) × (List (api_Pair)) × (Int) × (Int) × (Int) × (Int) × (Int) × (Int) × (Int) × (Int) × (Int) × (Int) × Unit) : Option (((List (api_Span)) × (List (api_Pair)) × (Int) × (Int) × (Int) × (Int) × (Int) × (Int) × (Int) × (Int) × (Int) × (Int) × Unit) ⊕ (((Int) × (Int) × (Int) × (Int) × (Int) × (Int) × (Int) × (Int) × Unit) ⊕ (Unit))) :=
 bif (decide ((s.2.2.2.1 : Int) < s.2.2.1)) then
  bif (decide ((0 : Int) ≤ s.2.2.2.1) && decide ((s.2.2.2.1 : Int) < (List.length s.2.1 : Int))) then
   let t0 : api_Pair := (List.getD s.2.1 (Int.toNat s.2.2.2.1) (([] : List UInt8), (([] : List UInt8), ((0 : Int), ()))))
   match bound_list_has (s.1, t0.1, ()) with
   | none => none
   | some r1 =>
    bif r1.1 then
     match entry_Charge (t0, ()) with
     | none => none
     | some r2 =>
      match bound_bounds_use (r2.1, s.2.2.2.2.2.2.2.2.1, s.2.2.2.2.2.2.2.2.2.1, s.2.2.2.2.2.2.2.2.2.2.1, s.2.2.2.2.2.2.2.2.2.2.2.1, ()) with
      | none => none
      | some r3 =>
       bound_reader_of_b0_j0 (s.1, s.2.1, s.2.2.1, s.2.2.2.1, s.2.2.2.2.1, s.2.2.2.2.2.1, s.2.2.2.2.2.2.1, s.2.2.2.2.2.2.2.1, r3.1, r3.2.1, r3.2.2.1, r3.2.2.2.1, ())
    else
     bound_reader_of_b0_j0 (s.1, s.2.1, s.2.2.1, s.2.2.2.1, s.2.2.2.2.1, s.2.2.2.2.2.1, s.2.2.2.2.2.2.1, s.2.2.2.2.2.2.2.1, s.2.2.2.2.2.2.2.2.1, s.2.2.2.2.2.2.2.2.2.1, s.2.2.2.2.2.2.2.2.2.2.1, s.2.2.2.2.2.2.2.2.2.2.2.1, ())
  else
   none
 else
  some (.inr (.inl (s.2.2.2.2.1, s.2.2.2.2.2.1, s.2.2.2.2.2.2.1, s.2.2.2.2.2.2.2.1, s.2.2.2.2.2.2.2.2.1, s.2.2.2.2.2.2.2.2.2.1, s.2.2.2.2.2.2.2.2.2.2.1, s.2.2.2.2.2.2.2.2.2.2.2.1, ())))
def bound_reader_of_l0 (s : (List (api_Span)) × (List (api_Pair)) × (Int) × (Int) × (Int) × (Int) × (Int) × (Int) × (Int) × (Int) × (Int) × (Int) × Unit) : Option (((Int) × (Int) × (Int) × (Int) × (Int) × (Int) × (Int) × (Int) × Unit) ⊕ (Unit)) := loopO (bound_reader_of_b0) s
def bound_reader_of (s : (bound_reader) × (Int) × (api_Span) × (List (api_Span)) × (Int) × Unit) : Option (ref21_Bounded) :=
 match pool_Get (s.1.1, s.2.1, ()) with
 | none => none
 | some r0 =>
  bif (!decide ((r0.2.1 : Int) = (0 : Int))) then
   some ((((0 : Int), ((0 : Int), ())), (((0 : Int), ((0 : Int), ())), ())), r0.2.1, ())
  else
   let t1 : Bool := (decide ((((List.length r0.1.2.2.1) : Int) : Int) = (0 : Int)))
   bif t1 then
    match bound_reader_of_l0 (s.2.2.2.1, r0.1.1, ((List.length r0.1.1) : Int), (0 : Int), (0 : Int), (0 : Int), (0 : Int), (0 : Int), (0 : Int), (0 : Int), (0 : Int), (0 : Int), ()) with
    | none => none
    | some (.inl z2) =>
     some (((z2.2.2.2.2.1, (z2.2.2.2.2.2.1, ())), ((z2.2.2.2.2.2.2.1, (z2.2.2.2.2.2.2.2.1, ())), ())), (0 : Int), ())
    | some (.inr z2) =>
     none
   else
    match slices_Backward_api_Msg_api_Msg (r0.1.2.2.2.2.1, ()) with
    | none => none
    | some r2 =>
     none
def bound_Of (s : (api_Tree) × (List UInt8) × (Int) × Unit) : Option (ref21_Bounded) :=
 bif (decide ((s.2.2.1 : Int) < (1 : Int))) then
  some ((((0 : Int), ((0 : Int), ())), (((0 : Int), ((0 : Int), ())), ())), (1 : Int), ())
 else
  match path_Valid (s.2.1, ()) with
  | none => none
  | some r0 =>
   bif (!r0.1) then
    some ((((0 : Int), ((0 : Int), ())), (((0 : Int), ((0 : Int), ())), ())), (10 : Int), ())
   else
    match span_Prefix (s.2.1, ()) with
    | none => none
    | some r1 =>
     match bound_reader_of ((s.1.1, ()), s.1.2.1, (([] : List UInt8), (([] : List UInt8), ())), ([r1.1] : List (api_Span)), s.2.2.1, ()) with
     | none => none
     | some r2 =>
      some (r2.1, r2.2.1, ())
def decide_ends (s : bound_bounds) : Option (api_Sum) :=
 some ((s.1.1.1, (s.1.2.1.1, ())), (s.1.1.2.1, (s.1.2.1.2.1, ())), ())
def decide_Allows_b0 (s : (List (api_Quota)) × (List (api_Hold)) × (List (api_Msg)) × (Int) × (Int) × (api_Tree) × Unit) : Option (((List (api_Quota)) × (List (api_Hold)) × (List (api_Msg)) × (Int) × (Int) × (api_Tree) × Unit) ⊕ ((ref22_Decided) ⊕ ((List (api_Quota)) × (List (api_Hold)) × (api_Tree) × Unit))) :=
 let t0 : Bool := (decide ((s.2.2.2.2.1 : Int) < s.2.2.2.1))
 bif t0 then
  bif (decide ((0 : Int) ≤ s.2.2.2.2.1) && decide ((s.2.2.2.2.1 : Int) < (List.length s.2.2.1 : Int))) then
   let t1 : api_Msg := (List.getD s.2.2.1 (Int.toNat s.2.2.2.2.1) ((0 : Int), (([] : List UInt8), (([] : List UInt8), ((([] : List UInt8), (([] : List UInt8), ())), (([] : List UInt8), (([] : List UInt8), ((0 : Int), ()))))))))
   match tree_Add (s.2.2.2.2.2.1, t1, ()) with
   | none => none
   | some r2 =>
    bif (!decide ((r2.2.1 : Int) = (0 : Int))) then
     some (.inr (.inl (false, (0 : Int), r2.2.1, ())))
    else
     let t3 : Int := (IntKind.i64.wrap (s.2.2.2.2.1 + (1 : Int)))
     some (.inl (s.1, s.2.1, s.2.2.1, s.2.2.2.1, t3, r2.1, ()))
  else
   none
 else
  some (.inr (.inr (s.1, s.2.1, s.2.2.2.2.2.1, ())))
def decide_Allows_l0 (s : (List (api_Quota)) × (List (api_Hold)) × (List (api_Msg)) × (Int) × (Int) × (api_Tree) × Unit) : Option ((ref22_Decided) ⊕ ((List (api_Quota)) × (List (api_Hold)) × (api_Tree) × Unit)) := loopO (decide_Allows_b0) s
def decide_Allows_b2 (s : (List (api_Hold)) × (Int) × (Int) × (Int) × (List (api_Quota)) × (Int) × (Int) × (api_Tree) × (api_Quota) × (api_Use) × Unit) : Option (((List (api_Hold)) × (Int) × (Int) × (Int) × (List (api_Quota)) × (Int) × (Int) × (api_Tree) × (api_Quota) × (api_Use) × Unit) ⊕ ((ref22_Decided) ⊕ ((List (api_Hold)) × (Int) × (Int) × (List (api_Quota)) × (Int) × (Int) × (api_Tree) × Unit))) :=
 bif (decide ((s.2.2.2.1 : Int) ≤ s.2.1)) then
  match bound_Of (s.2.2.2.2.2.2.2.1, s.2.2.2.2.2.2.2.2.1.1, s.2.2.2.1, ()) with
  | none => none
  | some r0 =>
   bif (!decide ((r0.2.1 : Int) = (0 : Int))) then
    some (.inr (.inl (false, (0 : Int), r0.2.1, ())))
   else
    let t1 : Int := (if (s.2.2.1 : Int) < s.2.2.2.1 then s.2.2.2.1 else s.2.2.1)
    match decide_ends (r0.1, ()) with
    | none => none
    | some r2 =>
     match decide_most (r2.2.1, s.2.2.2.2.2.2.2.2.2.1, ()) with
     | none => none
     | some r3 =>
      bif r3.1 then
       some (.inr (.inr (s.1, s.2.1, t1, s.2.2.2.2.1, s.2.2.2.2.2.1, s.2.2.2.2.2.2.1, s.2.2.2.2.2.2.2.1, ())))
      else
       match decide_most (r2.1, s.2.2.2.2.2.2.2.2.2.1, ()) with
       | none => none
       | some r4 =>
        bif (!r4.1) then
         some (.inr (.inl (false, t1, (0 : Int), ())))
        else
         let t5 : Int := (IntKind.i64.wrap (s.2.2.2.1 + (1 : Int)))
         some (.inl (s.1, s.2.1, t1, t5, s.2.2.2.2.1, s.2.2.2.2.2.1, s.2.2.2.2.2.2.1, s.2.2.2.2.2.2.2.1, s.2.2.2.2.2.2.2.2.1, s.2.2.2.2.2.2.2.2.2.1, ()))
 else
  none
def decide_Allows_l2 (s : (List (api_Hold)) × (Int) × (Int) × (Int) × (List (api_Quota)) × (Int) × (Int) × (api_Tree) × (api_Quota) × (api_Use) × Unit) : Option ((ref22_Decided) ⊕ ((List (api_Hold)) × (Int) × (Int) × (List (api_Quota)) × (Int) × (Int) × (api_Tree) × Unit)) := loopO (decide_Allows_b2) s
def decide_Allows_b1 (s : (List (api_Hold)) × (Int) × (Int) × (List (api_Quota)) × (Int) × (Int) × (api_Tree) × Unit) : Option (((List (api_Hold)) × (Int) × (Int) × (List (api_Quota)) × (Int) × (Int) × (api_Tree) × Unit) ⊕ ((ref22_Decided) ⊕ ((Int) × Unit))) :=
 let t0 : Bool := (decide ((s.2.2.2.2.2.1 : Int) < s.2.2.2.2.1))
 bif t0 then
  bif (decide ((0 : Int) ≤ s.2.2.2.2.2.1) && decide ((s.2.2.2.2.2.1 : Int) < (List.length s.2.2.2.1 : Int))) then
   let t1 : api_Quota := (List.getD s.2.2.2.1 (Int.toNat s.2.2.2.2.2.1) (([] : List UInt8), (((0 : Int), ((0 : Int), ())), ())))
   match decide_holds_room (s.1, t1, ()) with
   | none => none
   | some r2 =>
    match decide_Allows_l2 (s.1, s.2.1, s.2.2.1, (1 : Int), s.2.2.2.1, s.2.2.2.2.1, s.2.2.2.2.2.1, s.2.2.2.2.2.2.1, t1, r2.1, ()) with
    | none => none
    | some (.inl z3) =>
     some (.inr (.inl (z3.1, z3.2.1, z3.2.2.1, ())))
    | some (.inr z3) =>
     let t4 : Int := (IntKind.i64.wrap (z3.2.2.2.2.2.1 + (1 : Int)))
     some (.inl (z3.1, z3.2.1, z3.2.2.1, z3.2.2.2.1, z3.2.2.2.2.1, t4, z3.2.2.2.2.2.2.1, ()))
  else
   none
 else
  some (.inr (.inr (s.2.2.1, ())))
def decide_Allows_l1 (s : (List (api_Hold)) × (Int) × (Int) × (List (api_Quota)) × (Int) × (Int) × (api_Tree) × Unit) : Option ((ref22_Decided) ⊕ ((Int) × Unit)) := loopO (decide_Allows_b1) s
def decide_Allows (s : law22_given) : Option (ref22_Decided) :=
 match decide_Allows_l0 (s.2.1, s.2.2.1, s.2.2.2.1, ((List.length s.2.2.2.1) : Int), (0 : Int), s.1, ()) with
 | none => none
 | some (.inl z0) =>
  some (z0.1, z0.2.1, z0.2.2.1, ())
 | some (.inr z0) =>
  match tree_Height (z0.2.2.1, ()) with
  | none => none
  | some r1 =>
   match decide_Allows_l1 (z0.2.1, r1.1, (0 : Int), z0.1, ((List.length z0.1) : Int), (0 : Int), z0.2.2.1, ()) with
   | none => none
   | some (.inl z2) =>
    some (z2.1, z2.2.1, z2.2.2.1, ())
   | some (.inr z2) =>
    some (true, z2.1, (0 : Int), ())
def law22_allows (s : (law22_given) × Unit) : Option ((ref22_Decided) × Unit) :=
 match decide_Allows (s.1.1, s.1.2.1, s.1.2.2.1, s.1.2.2.2.1, ()) with
 | none => none
 | some r0 =>
  some ((r0.1, (r0.2.1, (r0.2.2.1, ()))), ())
def law22_sanity_c100005 (x_tree_New : ((api_Shape) × Unit) → Option ((api_Tree) × (Int) × Unit)) (x_tree_Add : ((api_Tree) × (api_Msg) × Unit) → Option ((api_Tree) × (Int) × Unit)) (x_ref12_Valid : ((api_Tree) × Unit) → Option ((Bool) × Unit)) (x_decide_Reserve : ((List (api_Hold)) × (api_Hold) × Unit) → Option ((List (api_Hold)) × (Int) × Unit)) (x_decide_Release : ((List (api_Hold)) × (Int) × Unit) → Option ((List (api_Hold)) × (Int) × Unit)) (x_law22_allows : ((law22_given) × Unit) → Option ((ref22_Decided) × Unit)) (s : (Bool) × (api_Tree) × Unit) : Option (((api_Tree) × Unit) ⊕ ((Bool) × Unit)) :=
 bif s.1 then
  some (.inr (false, ()))
 else
  some (.inl (s.2.1, ()))
def law22_sanity_c6 (x_tree_New : ((api_Shape) × Unit) → Option ((api_Tree) × (Int) × Unit)) (x_tree_Add : ((api_Tree) × (api_Msg) × Unit) → Option ((api_Tree) × (Int) × Unit)) (x_ref12_Valid : ((api_Tree) × Unit) → Option ((Bool) × Unit)) (x_decide_Reserve : ((List (api_Hold)) × (api_Hold) × Unit) → Option ((List (api_Hold)) × (Int) × Unit)) (x_decide_Release : ((List (api_Hold)) × (Int) × Unit) → Option ((List (api_Hold)) × (Int) × Unit)) (x_law22_allows : ((law22_given) × Unit) → Option ((ref22_Decided) × Unit)) (s : (api_Tree) × Unit) : Option (((Bool) × Unit) ⊕ (Unit)) :=
 match x_decide_Reserve (([] : List (api_Hold)), ((7 : Int), (([97, 47, 98, 47] : List UInt8), (((0 : Int), ((1 : Int), ())), ()))), ()) with
 | none => none
 | some r0 =>
  match x_decide_Reserve (r0.1, ((7 : Int), (([] : List UInt8), (((0 : Int), ((0 : Int), ())), ()))), ()) with
  | none => none
  | some r1 =>
   match x_decide_Reserve (r0.1, ((0 : Int), (([] : List UInt8), (((0 : Int), ((0 : Int), ())), ()))), ()) with
   | none => none
   | some r2 =>
    match x_decide_Release (r0.1, (7 : Int), ()) with
    | none => none
    | some r3 =>
     match x_decide_Release (r0.1, (1 : Int), ()) with
     | none => none
     | some r4 =>
      match x_law22_allows ((s.1, (([(([97, 47] : List UInt8), (((1 : Int), ((5 : Int), ())), ()))] : List (api_Quota)), (([] : List (api_Hold)), (([] : List (api_Msg)), ())))), ()) with
      | none => none
      | some r5 =>
       match x_law22_allows ((s.1, (([(([97, 47] : List UInt8), (((1 : Int), ((5 : Int), ())), ()))] : List (api_Quota)), (r0.1, (([] : List (api_Msg)), ())))), ()) with
       | none => none
       | some r6 =>
        match x_law22_allows ((s.1, (([] : List (api_Quota)), (([] : List (api_Hold)), (([] : List (api_Msg)), ())))), ()) with
        | none => none
        | some r7 =>
         let t8 : Bool := (Ty.eqb tref22_Decided r5.1 (true, ((1 : Int), ((0 : Int), ()))))
         bif t8 then
          let t9 : Bool := (Ty.eqb tref22_Decided r6.1 (false, ((1 : Int), ((0 : Int), ()))))
          bif t9 then
           let t10 : Bool := (Ty.eqb tref22_Decided r7.1 (true, ((0 : Int), ((0 : Int), ()))))
           bif t10 then
            bif (decide ((r0.2.1 : Int) = (0 : Int))) then
             let t11 : Bool := (decide ((((List.length r0.1) : Int) : Int) = (1 : Int)))
             bif t11 then
              bif (decide ((r1.2.1 : Int) = (220 : Int))) then
               bif (decide ((r2.2.1 : Int) = (220 : Int))) then
                bif (decide ((r3.2.1 : Int) = (0 : Int))) then
                 let t12 : Bool := (decide ((((List.length r3.1) : Int) : Int) = (0 : Int)))
                 bif t12 then
                  bif (decide ((r4.2.1 : Int) = (220 : Int))) then
                   match x_law22_allows ((s.1, (([] : List (api_Quota)), (([] : List (api_Hold)), (([((0 : Int), (([] : List UInt8), (([] : List UInt8), ((([] : List UInt8), (([] : List UInt8), ())), (([] : List UInt8), (([] : List UInt8), ((0 : Int), ())))))))] : List (api_Msg)), ())))), ()) with
                   | none => none
                   | some r13 =>
                    let t14 : Bool := (decide ((r13.1.2.2.1 : Int) = (50 : Int)))
                    some (.inl (t14, ()))
                  else
                   some (.inl (false, ()))
                 else
                  some (.inl (false, ()))
                else
                 some (.inl (false, ()))
               else
                some (.inl (false, ()))
              else
               some (.inl (false, ()))
             else
              some (.inl (false, ()))
            else
             some (.inl (false, ()))
           else
            some (.inl (false, ()))
          else
           some (.inl (false, ()))
         else
          some (.inl (false, ()))
def law22_sanity_step (x_tree_New : ((api_Shape) × Unit) → Option ((api_Tree) × (Int) × Unit)) (x_tree_Add : ((api_Tree) × (api_Msg) × Unit) → Option ((api_Tree) × (Int) × Unit)) (x_ref12_Valid : ((api_Tree) × Unit) → Option ((Bool) × Unit)) (x_decide_Reserve : ((List (api_Hold)) × (api_Hold) × Unit) → Option ((List (api_Hold)) × (Int) × Unit)) (x_decide_Release : ((List (api_Hold)) × (Int) × Unit) → Option ((List (api_Hold)) × (Int) × Unit)) (x_law22_allows : ((law22_given) × Unit) → Option ((ref22_Decided) × Unit)) (s : Unit) : Option ((Bool) × Unit) :=
 match x_tree_New (((4 : Int), ((2 : Int), ((1 : Int), ()))), ()) with
 | none => none
 | some r0 =>
  match x_tree_Add (r0.1, ((1 : Int), (([97, 47, 1] : List UInt8), (([] : List UInt8), ((([] : List UInt8), (([] : List UInt8), ())), (([] : List UInt8), (([] : List UInt8), ((0 : Int), ()))))))), ()) with
  | none => none
  | some r1 =>
   match x_tree_Add (r1.1, ((1 : Int), (([97, 47, 2, 0, 0] : List UInt8), (([49, 50, 51, 52, 53] : List UInt8), ((([] : List UInt8), (([] : List UInt8), ())), (([] : List UInt8), (([] : List UInt8), ((0 : Int), ()))))))), ()) with
   | none => none
   | some r2 =>
    bif (!(!decide ((r0.2.1 : Int) = (0 : Int)))) then
     bif (!(!decide ((r1.2.1 : Int) = (0 : Int)))) then
      bif (!(!decide ((r2.2.1 : Int) = (0 : Int)))) then
       match x_ref12_Valid (r2.1, ()) with
       | none => none
       | some r3 =>
        match law22_sanity_c100005 x_tree_New x_tree_Add x_ref12_Valid x_decide_Reserve x_decide_Release x_law22_allows ((!r3.1), r2.1, ()) with
        | none => none
        | some (.inl z4) =>
         match law22_sanity_c6 x_tree_New x_tree_Add x_ref12_Valid x_decide_Reserve x_decide_Release x_law22_allows (z4.1, ()) with
         | none => none
         | some (.inl z5) =>
          some (z5.1, ())
         | some (.inr z5) =>
          none
        | some (.inr z4) =>
         some (z4.1, ())
      else
       match law22_sanity_c100005 x_tree_New x_tree_Add x_ref12_Valid x_decide_Reserve x_decide_Release x_law22_allows (true, r2.1, ()) with
       | none => none
       | some (.inl z3) =>
        match law22_sanity_c6 x_tree_New x_tree_Add x_ref12_Valid x_decide_Reserve x_decide_Release x_law22_allows (z3.1, ()) with
        | none => none
        | some (.inl z4) =>
         some (z4.1, ())
        | some (.inr z4) =>
         none
       | some (.inr z3) =>
        some (z3.1, ())
     else
      match law22_sanity_c100005 x_tree_New x_tree_Add x_ref12_Valid x_decide_Reserve x_decide_Release x_law22_allows (true, r2.1, ()) with
      | none => none
      | some (.inl z3) =>
       match law22_sanity_c6 x_tree_New x_tree_Add x_ref12_Valid x_decide_Reserve x_decide_Release x_law22_allows (z3.1, ()) with
       | none => none
       | some (.inl z4) =>
        some (z4.1, ())
       | some (.inr z4) =>
        none
      | some (.inr z3) =>
       some (z3.1, ())
    else
     match law22_sanity_c100005 x_tree_New x_tree_Add x_ref12_Valid x_decide_Reserve x_decide_Release x_law22_allows (true, r2.1, ()) with
     | none => none
     | some (.inl z3) =>
      match law22_sanity_c6 x_tree_New x_tree_Add x_ref12_Valid x_decide_Reserve x_decide_Release x_law22_allows (z3.1, ()) with
      | none => none
      | some (.inl z4) =>
       some (z4.1, ())
      | some (.inr z4) =>
       none
     | some (.inr z3) =>
      some (z3.1, ())
def law22_sanity (s : Unit) : Option ((Bool) × Unit) := law22_sanity_step tree_New tree_Add ref12_Valid decide_Reserve decide_Release law22_allows s
def ref05_Path (s : (Int) × Unit) : Option ((List UInt8) × Unit) :=
 bif (decide ((0 : Int) ≤ (Int.tmod s.1 (5 : Int))) && decide (((Int.tmod s.1 (5 : Int)) : Int) < (List.length ([([97, 47] : List UInt8), ([98, 47] : List UInt8), ([97, 47, 98, 47] : List UInt8), ([99, 47] : List UInt8), ([100, 47] : List UInt8)] : List (List UInt8)) : Int))) then
  let t0 : List UInt8 := (List.getD ([([97, 47] : List UInt8), ([98, 47] : List UInt8), ([97, 47, 98, 47] : List UInt8), ([99, 47] : List UInt8), ([100, 47] : List UInt8)] : List (List UInt8)) (Int.toNat (Int.tmod s.1 (5 : Int))) ([] : List UInt8))
  some (t0, ())
 else
  none
def ref20_Path (s : (Int) × Unit) : Option ((List UInt8) × Unit) :=
 let t0 : Bool := (decide (((Int.tmod s.1 (6 : Int)) : Int) = (5 : Int)))
 bif t0 then
  some (([] : List UInt8), ())
 else
  match ref05_Path ((Int.tmod s.1 (6 : Int)), ()) with
  | none => none
  | some r1 =>
   some (r1.1, ())
def ref22_in (s : (Int) × Unit) : Option ((Bool) × Unit) :=
 bif (decide ((s.1 : Int) ≥ (0 : Int))) then
  let t0 : Bool := (decide ((s.1 : Int) ≤ (1000000000 : Int)))
  some (t0, ())
 else
  some (false, ())
def ref22_Right (s : (api_Hold) × Unit) : Option ((Bool) × Unit) :=
 bif (decide ((s.1.1 : Int) ≥ (1 : Int))) then
  let t0 : Bool := (decide ((s.1.1 : Int) < (2147483648 : Int)))
  bif t0 then
   match ref01_Valid (s.1.2.1, ()) with
   | none => none
   | some r1 =>
    bif r1.1 then
     match ref22_in (s.1.2.2.1.1, ()) with
     | none => none
     | some r2 =>
      bif r2.1 then
       match ref22_in (s.1.2.2.1.2.1, ()) with
       | none => none
       | some r3 =>
        some (r3.1, ())
      else
       some (false, ())
    else
     some (false, ())
  else
   some (false, ())
 else
  some (false, ())
def ref22_Has_b0 (s : (List (api_Hold)) × (Int) × (Int) × Unit) : Option (((List (api_Hold)) × (Int) × (Int) × Unit) ⊕ (((Bool) × Unit) ⊕ (Unit))) :=
 let t0 : Bool := (decide ((s.2.2.1 : Int) < ((List.length s.1) : Int)))
 bif t0 then
  bif (decide ((0 : Int) ≤ s.2.2.1) && decide ((s.2.2.1 : Int) < (List.length s.1 : Int))) then
   let t1 : api_Hold := (List.getD s.1 (Int.toNat s.2.2.1) ((0 : Int), (([] : List UInt8), (((0 : Int), ((0 : Int), ())), ()))))
   bif (decide ((t1.1 : Int) = s.2.1)) then
    some (.inr (.inl (true, ())))
   else
    some (.inl (s.1, s.2.1, (IntKind.i64.wrap (s.2.2.1 + (1 : Int))), ()))
  else
   none
 else
  some (.inr (.inr (())))
def ref22_Has_l0 (s : (List (api_Hold)) × (Int) × (Int) × Unit) : Option (((Bool) × Unit) ⊕ (Unit)) := loopO (ref22_Has_b0) s
def ref22_Has (s : (List (api_Hold)) × (Int) × Unit) : Option ((Bool) × Unit) :=
 match ref22_Has_l0 (s.1, s.2.1, (0 : Int), ()) with
 | none => none
 | some (.inl z0) =>
  some (z0.1, ())
 | some (.inr z0) =>
  some (false, ())
def ref22_Reserve_j0 (s : (List (api_Hold)) × (Bool) × (api_Hold) × Unit) : Option ((List (api_Hold)) × (Int) × Unit) :=
 bif s.2.1 then
  some (s.1, (220 : Int), ())
 else
  let t0 : Bool := (decide ((((List.length s.1) : Int) : Int) ≥ (16 : Int)))
  bif t0 then
   some (s.1, (2 : Int), ())
  else
   bif (decide ((List.length ([] : List (api_Hold)) + List.length s.1) * 40 ≤ roomMax)) then
    let t1 : List (api_Hold) := (([] : List (api_Hold)) ++ s.1)
    bif (decide ((List.length t1 + List.length ([s.2.2.1] : List (api_Hold))) * 40 ≤ roomMax)) then
     let t2 : List (api_Hold) := (t1 ++ ([s.2.2.1] : List (api_Hold)))
     some (t2, (0 : Int), ())
    else
     none
   else
    none

def ref22_Reserve (s : (List (api_Hold)) × (api_Hold) × Unit) : Option ((List (api_Hold)) × (Int) × Unit) :=
 match ref22_Right (s.2.1, ()) with
 | none => none
 | some r0 =>
  bif (!(!r0.1)) then
   match ref22_Has (s.1, s.2.1.1, ()) with
   | none => none
   | some r1 =>
    ref22_Reserve_j0 (s.1, r1.1, s.2.1, ())
  else
   ref22_Reserve_j0 (s.1, true, s.2.1, ())
def ref22_Made_b0_j0 (s : (List ((Int) × (Int) × (Int) × (Int) × Unit)) × (List (api_Hold)) × (Int) × (Bool) × Unit) : Option (((List ((Int) × (Int) × (Int) × (Int) × Unit)) × (List (api_Hold)) × (Int) × Unit) ⊕ (((List (api_Hold)) × Unit) ⊕ (Unit))) :=
 bif s.2.2.2.1 then
  bif (decide ((0 : Int) ≤ s.2.2.1) && decide ((s.2.2.1 : Int) < (List.length s.1 : Int))) then
   let t0 : (Int) × (Int) × (Int) × (Int) × Unit := (List.getD s.1 (Int.toNat s.2.2.1) ((0 : Int), ((0 : Int), ((0 : Int), ((0 : Int), ())))))
   let t1 : Int := (Int.tmod (IntKind.i64.wrap t0.1) (8 : Int))
   bif (decide ((0 : Int) ≤ s.2.2.1) && decide ((s.2.2.1 : Int) < (List.length s.1 : Int))) then
    let t2 : (Int) × (Int) × (Int) × (Int) × Unit := (List.getD s.1 (Int.toNat s.2.2.1) ((0 : Int), ((0 : Int), ((0 : Int), ((0 : Int), ())))))
    match ref20_Path (t2.2.1, ()) with
    | none => none
    | some r3 =>
     bif (decide ((0 : Int) ≤ s.2.2.1) && decide ((s.2.2.1 : Int) < (List.length s.1 : Int))) then
      let t4 : (Int) × (Int) × (Int) × (Int) × Unit := (List.getD s.1 (Int.toNat s.2.2.1) ((0 : Int), ((0 : Int), ((0 : Int), ((0 : Int), ())))))
      let t5 : Int := (Int.tmod (IntKind.i64.wrap t4.2.2.1) (4 : Int))
      bif (decide ((0 : Int) ≤ s.2.2.1) && decide ((s.2.2.1 : Int) < (List.length s.1 : Int))) then
       let t6 : (Int) × (Int) × (Int) × (Int) × Unit := (List.getD s.1 (Int.toNat s.2.2.1) ((0 : Int), ((0 : Int), ((0 : Int), ((0 : Int), ())))))
       let t7 : Int := (Int.tmod (IntKind.i64.wrap t6.2.2.2.1) (16 : Int))
       match ref22_Reserve (s.2.1, ((IntKind.i64.wrap ((1 : Int) + t1)), (r3.1, ((t5, (t7, ())), ()))), ()) with
       | none => none
       | some r8 =>
        some (.inl (s.1, r8.1, (IntKind.i64.wrap (s.2.2.1 + (1 : Int))), ()))
      else
       none
     else
      none
   else
    none
  else
   none
 else
  some (.inr (.inl (s.2.1, ())))

def ref22_Made_b0 (s : (List ((Int) × (Int) × (Int) × (Int) × Unit)) × (List (api_Hold)) × (Int) × Unit) : Option (((List ((Int) × (Int) × (Int) × (Int) × Unit)) × (List (api_Hold)) × (Int) × Unit) ⊕ (((List (api_Hold)) × Unit) ⊕ (Unit))) :=
 let t0 : Bool := (decide ((s.2.2.1 : Int) < ((List.length s.1) : Int)))
 bif t0 then
  ref22_Made_b0_j0 (s.1, s.2.1, s.2.2.1, (decide ((s.2.2.1 : Int) < (6 : Int))), ())
 else
  ref22_Made_b0_j0 (s.1, s.2.1, s.2.2.1, false, ())
def ref22_Made_l0 (s : (List ((Int) × (Int) × (Int) × (Int) × Unit)) × (List (api_Hold)) × (Int) × Unit) : Option (((List (api_Hold)) × Unit) ⊕ (Unit)) := loopO (ref22_Made_b0) s
def ref22_Made (s : (List ((Int) × (Int) × (Int) × (Int) × Unit)) × Unit) : Option ((List (api_Hold)) × Unit) :=
 match ref22_Made_l0 (s.1, ([] : List (api_Hold)), (0 : Int), ()) with
 | none => none
 | some (.inl z0) =>
  some (z0.1, ())
 | some (.inr z0) =>
  none
def ref22_Same_b0 (s : (List (api_Hold)) × (List (api_Hold)) × (Int) × Unit) : Option (((List (api_Hold)) × (List (api_Hold)) × (Int) × Unit) ⊕ (((Bool) × Unit) ⊕ (Unit))) :=
 let t0 : Bool := (decide ((s.2.2.1 : Int) < ((List.length s.1) : Int)))
 bif t0 then
  bif (decide ((0 : Int) ≤ s.2.2.1) && decide ((s.2.2.1 : Int) < (List.length s.1 : Int))) then
   let t1 : api_Hold := (List.getD s.1 (Int.toNat s.2.2.1) ((0 : Int), (([] : List UInt8), (((0 : Int), ((0 : Int), ())), ()))))
   bif (decide ((0 : Int) ≤ s.2.2.1) && decide ((s.2.2.1 : Int) < (List.length s.2.1 : Int))) then
    let t2 : api_Hold := (List.getD s.2.1 (Int.toNat s.2.2.1) ((0 : Int), (([] : List UInt8), (((0 : Int), ((0 : Int), ())), ()))))
    let t3 : Bool := (!(Ty.eqb tapi_Hold t1 t2))
    bif t3 then
     some (.inr (.inl (false, ())))
    else
     some (.inl (s.1, s.2.1, (IntKind.i64.wrap (s.2.2.1 + (1 : Int))), ()))
   else
    none
  else
   none
 else
  some (.inr (.inr (())))
def ref22_Same_l0 (s : (List (api_Hold)) × (List (api_Hold)) × (Int) × Unit) : Option (((Bool) × Unit) ⊕ (Unit)) := loopO (ref22_Same_b0) s
def ref22_Same (s : (List (api_Hold)) × (List (api_Hold)) × Unit) : Option ((Bool) × Unit) :=
 let t0 : Bool := (!decide ((((List.length s.1) : Int) : Int) = ((List.length s.2.1) : Int)))
 bif t0 then
  some (false, ())
 else
  match ref22_Same_l0 (s.1, s.2.1, (0 : Int), ()) with
  | none => none
  | some (.inl z1) =>
   some (z1.1, ())
  | some (.inr z1) =>
   some (true, ())
def ref22_Valid_b0 (s : (List (api_Hold)) × (Int) × Unit) : Option (((List (api_Hold)) × (Int) × Unit) ⊕ (((Bool) × Unit) ⊕ ((List (api_Hold)) × Unit))) :=
 let t0 : Bool := (decide ((s.2.1 : Int) < ((List.length s.1) : Int)))
 bif t0 then
  bif (decide ((0 : Int) ≤ s.2.1) && decide ((s.2.1 : Int) < (List.length s.1 : Int))) then
   let t1 : api_Hold := (List.getD s.1 (Int.toNat s.2.1) ((0 : Int), (([] : List UInt8), (((0 : Int), ((0 : Int), ())), ()))))
   match ref22_Right (t1, ()) with
   | none => none
   | some r2 =>
    bif (!(!r2.1)) then
     bif (decide (((0 : Int) : Int) ≤ s.2.1) && decide ((s.2.1 : Int) ≤ (List.length s.1 : Int))) then
      let t3 : List (api_Hold) := (List.drop 0 (List.take (Int.toNat s.2.1) s.1))
      bif (decide ((0 : Int) ≤ s.2.1) && decide ((s.2.1 : Int) < (List.length s.1 : Int))) then
       let t4 : api_Hold := (List.getD s.1 (Int.toNat s.2.1) ((0 : Int), (([] : List UInt8), (((0 : Int), ((0 : Int), ())), ()))))
       match ref22_Has (t3, t4.1, ()) with
       | none => none
       | some r5 =>
        bif r5.1 then
         some (.inr (.inl (false, ())))
        else
         some (.inl (s.1, (IntKind.i64.wrap (s.2.1 + (1 : Int))), ()))
      else
       none
     else
      none
    else
     some (.inr (.inl (false, ())))
  else
   none
 else
  some (.inr (.inr (s.1, ())))
def ref22_Valid_l0 (s : (List (api_Hold)) × (Int) × Unit) : Option (((Bool) × Unit) ⊕ ((List (api_Hold)) × Unit)) := loopO (ref22_Valid_b0) s
def ref22_Valid (s : (List (api_Hold)) × Unit) : Option ((Bool) × Unit) :=
 match ref22_Valid_l0 (s.1, (0 : Int), ()) with
 | none => none
 | some (.inl z0) =>
  some (z0.1, ())
 | some (.inr z0) =>
  let t1 : Bool := (decide ((((List.length z0.1) : Int) : Int) ≤ (16 : Int)))
  some (t1, ())
def law22_DecideLists_j0 (s : (Bool) × (List (api_Hold)) × (List (api_Hold)) × (Bool) × (api_Hold) × Unit) : Option ((Bool) × Unit) :=
 bif s.2.2.2.1 then
  some (false, ())
 else
  match decide_Release (s.2.2.1, s.2.2.2.2.1.1, ()) with
  | none => none
  | some r0 =>
   match decide_Release (r0.1, s.2.2.2.2.1.1, ()) with
   | none => none
   | some r1 =>
    bif (decide ((r0.2.1 : Int) = (0 : Int))) then
     match ref22_Same (r0.1, s.2.1, ()) with
     | none => none
     | some r2 =>
      bif r2.1 then
       bif (decide ((r1.2.1 : Int) = (220 : Int))) then
        some (s.1, ())
       else
        some (false, ())
      else
       some (false, ())
    else
     some (false, ())

def law22_DecideLists (s : (List ((Int) × (Int) × (Int) × (Int) × Unit)) × ((Int) × (Int) × (Int) × (Int) × Unit) × Unit) : Option ((Bool) × Unit) :=
 match law22_sanity (()) with
 | none => none
 | some r0 =>
  match ref22_Made (s.1, ()) with
  | none => none
  | some r1 =>
   match ref22_Made (([s.2.1] : List ((Int) × (Int) × (Int) × (Int) × Unit)), ()) with
   | none => none
   | some r2 =>
    bif (decide (((0 : Int) : Int) < (List.length r2.1 : Int))) then
     let t3 : api_Hold := (List.getD r2.1 0 ((0 : Int), (([] : List UInt8), (((0 : Int), ((0 : Int), ())), ()))))
     match decide_Reserve (r1.1, t3, ()) with
     | none => none
     | some r4 =>
      match ref22_Has (r1.1, t3.1, ()) with
      | none => none
      | some r5 =>
       bif r5.1 then
        bif (decide ((r4.2.1 : Int) = (220 : Int))) then
         match ref22_Same (r4.1, r1.1, ()) with
         | none => none
         | some r6 =>
          bif r6.1 then
           some (r0.1, ())
          else
           some (false, ())
        else
         some (false, ())
       else
        bif (!(!decide ((r4.2.1 : Int) = (0 : Int)))) then
         match ref22_Valid (r4.1, ()) with
         | none => none
         | some r6 =>
          bif (!(!r6.1)) then
           let t7 : Int := (IntKind.i64.wrap (((List.length r1.1) : Int) + (1 : Int)))
           let t8 : Bool := (!decide ((((List.length r4.1) : Int) : Int) = t7))
           bif (!t8) then
            bif (decide ((0 : Int) ≤ ((List.length r1.1) : Int)) && decide ((((List.length r1.1) : Int) : Int) < (List.length r4.1 : Int))) then
             let t9 : api_Hold := (List.getD r4.1 (Int.toNat ((List.length r1.1) : Int)) ((0 : Int), (([] : List UInt8), (((0 : Int), ((0 : Int), ())), ()))))
             let t10 : Bool := (!(Ty.eqb tapi_Hold t9 t3))
             bif (!t10) then
              bif (decide (((0 : Int) : Int) ≤ ((List.length r1.1) : Int)) && decide ((((List.length r1.1) : Int) : Int) ≤ (List.length r4.1 : Int))) then
               let t11 : List (api_Hold) := (List.drop 0 (List.take (Int.toNat ((List.length r1.1) : Int)) r4.1))
               match ref22_Same (t11, r1.1, ()) with
               | none => none
               | some r12 =>
                law22_DecideLists_j0 (r0.1, r1.1, r4.1, (!r12.1), t3, ())
              else
               none
             else
              law22_DecideLists_j0 (r0.1, r1.1, r4.1, true, t3, ())
            else
             none
           else
            law22_DecideLists_j0 (r0.1, r1.1, r4.1, true, t3, ())
          else
           law22_DecideLists_j0 (r0.1, r1.1, r4.1, true, t3, ())
        else
         law22_DecideLists_j0 (r0.1, r1.1, r4.1, true, t3, ())
    else
     none


end D
