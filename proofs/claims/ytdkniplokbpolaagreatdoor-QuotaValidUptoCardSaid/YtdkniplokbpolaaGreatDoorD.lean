/- Plain functions, by program. -/
import Derived.Test.YtdkniplokbpolaaGreatDoorXD
set_option linter.unusedVariables false
open Go Go.X
namespace D
abbrev api_Use : Type := (Int) × (Int) × Unit
abbrev runtime_errorAddressString : Type := (List UInt8) × (Int) × Unit
abbrev quota_amount : Type := (api_Use) × Unit
abbrev api_Span : Type := (List UInt8) × (List UInt8) × Unit
abbrev api_Pair : Type := (List UInt8) × (List UInt8) × (Int) × Unit
abbrev api_Quota : Type := (List UInt8) × (api_Use) × Unit
abbrev api_Place : Type := (List UInt8) × (Int) × (Int) × (List UInt8) × Unit
abbrev quota_measured : Type := (quota_amount) × (List UInt8) × Unit
abbrev path_place : Type := ((List UInt8) × Unit) × (api_Place) × Unit
abbrev api_Msg : Type := (Int) × (List UInt8) × (List UInt8) × (api_Span) × (List UInt8) × (List UInt8) × (Int) × Unit
@[reducible] def tapi_Use : Ty := (.pair (.int .i64) (.pair (.int .i64) .unit))
@[reducible] def truntime_errorAddressString : Ty := (.pair .str (.pair (.int .u64) .unit))
@[reducible] def tquota_amount : Ty := (.pair tapi_Use .unit)
@[reducible] def tapi_Span : Ty := (.pair .str (.pair .str .unit))
@[reducible] def tapi_Pair : Ty := (.pair .str (.pair .str (.pair (.int .i64) .unit)))
@[reducible] def tapi_Quota : Ty := (.pair .str tquota_amount)
@[reducible] def tapi_Place : Ty := (.pair .str (.pair (.int .i64) (.pair (.int .i64) (.pair .str .unit))))
@[reducible] def tquota_measured : Ty := (.pair tquota_amount (.pair .str .unit))
@[reducible] def tpath_place : Ty := (.pair (.pair .str .unit) (.pair tapi_Place .unit))
@[reducible] def tapi_Msg : Ty := (.pair (.int .i64) (.pair .str (.pair .str (.pair tapi_Span tapi_Pair))))
def law20_sample (s : Unit) : Option ((List (api_Pair)) × Unit) :=
 some (([(([97, 47, 1] : List UInt8), (([] : List UInt8), ((0 : Int), ()))), (([97, 47, 2, 0, 0] : List UInt8), (([120, 121, 122] : List UInt8), ((0 : Int), ()))), (([97, 47, 98, 47, 1] : List UInt8), (([] : List UInt8), ((0 : Int), ()))), (([99, 47, 1] : List UInt8), (([] : List UInt8), ((0 : Int), ())))] : List (api_Pair)), ())
def span_Prefix_b0_j0 (s : (List UInt8) × (Bool) × (List UInt8) × (List UInt8) × (List (Int)) × Unit) : Option (((List UInt8) × (List UInt8) × (List UInt8) × (List (Int)) × Unit) ⊕ (((List UInt8) × (List UInt8) × (List UInt8) × (List (Int)) × Unit) ⊕ (Unit))) :=
 bif s.2.1 then
  let t0 : Int := (IntKind.i64.wrap (((List.length s.2.2.2.2.1) : Int) - (1 : Int)))
  bif (decide (((0 : Int) : Int) ≤ t0) && decide ((t0 : Int) ≤ (List.length s.2.2.2.2.1 : Int))) then
   some (.inl (s.1, s.2.2.1, s.2.2.2.1, (List.take (Int.toNat t0) s.2.2.2.2.1), ()))
  else
   none
 else
  some (.inr (.inl (s.1, s.2.2.1, s.2.2.2.1, s.2.2.2.2.1, ())))

def span_Prefix_b0 (s : (List UInt8) × (List UInt8) × (List UInt8) × (List (Int)) × Unit) : Option (((List UInt8) × (List UInt8) × (List UInt8) × (List (Int)) × Unit) ⊕ (((List UInt8) × (List UInt8) × (List UInt8) × (List (Int)) × Unit) ⊕ (Unit))) :=
 let t0 : Bool := (decide ((((List.length s.2.2.2.1) : Int) : Int) > (0 : Int)))
 bif t0 then
  let t1 : Int := (IntKind.i64.wrap (((List.length s.2.2.2.1) : Int) - (1 : Int)))
  bif (decide ((0 : Int) ≤ t1) && decide ((t1 : Int) < (List.length s.2.2.2.1 : Int))) then
   let t2 : Int := (List.getD s.2.2.2.1 (Int.toNat t1) (0 : Int))
   span_Prefix_b0_j0 (s.1, (decide ((t2 : Int) = (255 : Int))), s.2.1, s.2.2.1, s.2.2.2.1, ())
  else
   none
 else
  span_Prefix_b0_j0 (s.1, false, s.2.1, s.2.2.1, s.2.2.2.1, ())
def span_Prefix_l0 (s : (List UInt8) × (List UInt8) × (List UInt8) × (List (Int)) × Unit) : Option (((List UInt8) × (List UInt8) × (List UInt8) × (List (Int)) × Unit) ⊕ (Unit)) := loopO (span_Prefix_b0) s
def span_Prefix (s : (List UInt8) × Unit) : Option ((api_Span) × Unit) :=
 bif (decide (List.length s.1 ≤ roomMax)) then
  match span_Prefix_l0 (s.1, ([] : List UInt8), ([] : List UInt8), (bytesOfS s.1), ()) with
  | none => none
  | some (.inl z0) =>
   let t1 : Bool := (decide ((((List.length z0.2.2.2.1) : Int) : Int) > (0 : Int)))
   bif t1 then
    let t2 : Int := (IntKind.i64.wrap (((List.length z0.2.2.2.1) : Int) - (1 : Int)))
    bif (decide ((0 : Int) ≤ t2) && decide ((t2 : Int) < (List.length z0.2.2.2.1 : Int))) then
     let t3 : Int := (List.getD z0.2.2.2.1 (Int.toNat t2) (0 : Int))
     bif (decide ((0 : Int) ≤ t2) && decide ((t2 : Int) < (List.length z0.2.2.2.1 : Int))) then
      let t4 : List (Int) := (List.set z0.2.2.2.1 (Int.toNat t2) (IntKind.u8.wrap (t3 + (1 : Int))))
      some ((z0.1, ((sOfBytes t4), ())), ())
     else
      none
    else
     none
   else
    some ((z0.1, ((sOfBytes z0.2.2.2.1), ())), ())
  | some (.inr z0) =>
   none
 else
  none
def span_Empty (s : (api_Span) × Unit) : Option ((Bool) × Unit) :=
 let t0 : Bool := (!decide ((s.1.2.1 : List UInt8) = ([] : List UInt8)))
 bif t0 then
  let t1 : Bool := (Op.bytesLess s.1.2.1 s.1.1 || decide ((s.1.2.1 : List UInt8) = s.1.1))
  some (t1, ())
 else
  some (false, ())
def internal_bytealg_CompareString (s : api_Span) : Option ((Int) × Unit) := some ((fun a b => Lib.compareBytes a b) s.1 s.2.1, ())
def strings_Compare (s : api_Span) : Option ((Int) × Unit) :=
 match internal_bytealg_CompareString (s.1, s.2.1, ()) with
 | none => none
 | some r0 =>
  some (r0.1, ())
def table_placeC1 (s : (api_Pair) × (List UInt8) × Unit) : Option ((Int) × Unit) :=
 match strings_Compare (s.1.1, s.2.1, ()) with
 | none => none
 | some r0 =>
  some (r0.1, ())
def slices_BinarySearchFunc_api_Pair_api_Pair_string_b0 (s : (List (api_Pair)) × (List UInt8) × (Int) × (Int) × (Int) × Unit) : Option (((List (api_Pair)) × (List UInt8) × (Int) × (Int) × (Int) × Unit) ⊕ (((List (api_Pair)) × (List UInt8) × (Int) × (Int) × Unit) ⊕ (Unit))) :=
 let t0 : Bool := (decide ((s.2.2.2.1 : Int) < s.2.2.2.2.1))
 bif t0 then
  let t1 : Int := (IntKind.i64.wrap (s.2.2.2.1 + s.2.2.2.2.1))
  let t2 : Int := (Int.fdiv (IntKind.u64.wrap t1) (2 ^ (min (Int.toNat (1 : Int)) IntKind.u64.bits)))
  bif (decide ((0 : Int) ≤ (IntKind.i64.wrap t2)) && decide (((IntKind.i64.wrap t2) : Int) < (List.length s.1 : Int))) then
   let t3 : api_Pair := (List.getD s.1 (Int.toNat (IntKind.i64.wrap t2)) (([] : List UInt8), (([] : List UInt8), ((0 : Int), ()))))
   match table_placeC1 (t3, s.2.1, ()) with
   | none => none
   | some r4 =>
    bif (decide ((r4.1 : Int) < (0 : Int))) then
     let t5 : Int := (IntKind.i64.wrap ((IntKind.i64.wrap t2) + (1 : Int)))
     some (.inl (s.1, s.2.1, s.2.2.1, t5, s.2.2.2.2.1, ()))
    else
     some (.inl (s.1, s.2.1, s.2.2.1, s.2.2.2.1, (IntKind.i64.wrap t2), ()))
  else
   none
 else
  some (.inr (.inl (s.1, s.2.1, s.2.2.1, s.2.2.2.1, ())))
def slices_BinarySearchFunc_api_Pair_api_Pair_string_l0 (s : (List (api_Pair)) × (List UInt8) × (Int) × (Int) × (Int) × Unit) : Option (((List (api_Pair)) × (List UInt8) × (Int) × (Int) × Unit) ⊕ (Unit)) := loopO (slices_BinarySearchFunc_api_Pair_api_Pair_string_b0) s
def slices_BinarySearchFunc_api_Pair_api_Pair_string (s : (List (api_Pair)) × (List UInt8) × Unit) : Option ((Int) × (Bool) × Unit) :=
 match slices_BinarySearchFunc_api_Pair_api_Pair_string_l0 (s.1, s.2.1, ((List.length s.1) : Int), (0 : Int), ((List.length s.1) : Int), ()) with
 | none => none
 | some (.inl z0) =>
  bif (decide ((z0.2.2.2.1 : Int) < z0.2.2.1)) then
   bif (decide ((0 : Int) ≤ z0.2.2.2.1) && decide ((z0.2.2.2.1 : Int) < (List.length z0.1 : Int))) then
    let t1 : api_Pair := (List.getD z0.1 (Int.toNat z0.2.2.2.1) (([] : List UInt8), (([] : List UInt8), ((0 : Int), ()))))
    match table_placeC1 (t1, z0.2.1, ()) with
    | none => none
    | some r2 =>
     some (z0.2.2.2.1, (decide ((r2.1 : Int) = (0 : Int))), ())
   else
    none
  else
   some (z0.2.2.2.1, false, ())
 | some (.inr z0) =>
  none
def table_place (s : (List (api_Pair)) × (List UInt8) × Unit) : Option ((Int) × (Bool) × Unit) :=
 match slices_BinarySearchFunc_api_Pair_api_Pair_string (s.1, s.2.1, ()) with
 | none => none
 | some r0 =>
  some (r0.1, r0.2.1, ())
def table_bounds (s : (List (api_Pair)) × (api_Span) × Unit) : Option (api_Use) :=
 match span_Empty (s.2.1, ()) with
 | none => none
 | some r0 =>
  bif r0.1 then
   some ((0 : Int), (0 : Int), ())
  else
   match table_place (s.1, s.2.1.1, ()) with
   | none => none
   | some r1 =>
    let t2 : Bool := (!decide ((s.2.1.2.1 : List UInt8) = ([] : List UInt8)))
    bif t2 then
     match table_place (s.1, s.2.1.2.1, ()) with
     | none => none
     | some r3 =>
      some (r1.1, r3.1, ())
    else
     some (r1.1, ((List.length s.1) : Int), ())
def table_Range (s : (List (api_Pair)) × (api_Span) × Unit) : Option ((List (api_Pair)) × Unit) :=
 match table_bounds (s.1, s.2.1, ()) with
 | none => none
 | some r0 =>
  bif (decide ((0 : Int) ≤ r0.1) && decide ((r0.1 : Int) ≤ r0.2.1) && decide ((r0.2.1 : Int) ≤ (List.length s.1 : Int)) && decide ((r0.2.1 : Int) = r0.2.1)) then
   let t1 : List (api_Pair) := (List.drop (Int.toNat r0.1) (List.take (Int.toNat r0.2.1) s.1))
   some (t1, ())
  else
   none
def internal_stringslite_HasPrefix (s : api_Span) : Option ((Bool) × Unit) :=
 let t0 : Bool := (decide ((((List.length s.1) : Int) : Int) ≥ ((List.length s.2.1) : Int)))
 bif t0 then
  bif (decide (((0 : Int) : Int) ≤ ((List.length s.2.1) : Int)) && decide ((((List.length s.2.1) : Int) : Int) ≤ (List.length s.1 : Int))) then
   let t1 : List UInt8 := (List.drop 0 (List.take (Int.toNat ((List.length s.2.1) : Int)) s.1))
   some ((decide ((t1 : List UInt8) = s.2.1)), ())
  else
   none
 else
  some (false, ())
def internal_stringslite_CutPrefix (s : api_Span) : Option ((List UInt8) × (Bool) × Unit) :=
 match internal_stringslite_HasPrefix (s.1, s.2.1, ()) with
 | none => none
 | some r0 =>
  bif (!r0.1) then
   some (s.1, false, ())
  else
   bif (decide ((0 : Int) ≤ ((List.length s.2.1) : Int)) && decide ((((List.length s.2.1) : Int) : Int) ≤ (List.length s.1 : Int)) && decide (((List.length s.1 : Int) : Int) ≤ (List.length s.1 : Int))) then
    let t1 : List UInt8 := (List.drop (Int.toNat ((List.length s.2.1) : Int)) (List.take (Int.toNat (List.length s.1 : Int)) s.1))
    some (t1, true, ())
   else
    none
def strings_CutPrefix (s : api_Span) : Option ((List UInt8) × (Bool) × Unit) :=
 match internal_stringslite_CutPrefix (s.1, s.2.1, ()) with
 | none => none
 | some r0 =>
  some (r0.1, r0.2.1, ())
def internal_stringslite_IndexByte (s : runtime_errorAddressString) : Option ((Int) × Unit) := some ((fun a c => Lib.indexByte a c.toNat.toUInt8) s.1 s.2.1, ())
def strings_IndexByte (s : runtime_errorAddressString) : Option ((Int) × Unit) :=
 match internal_stringslite_IndexByte (s.1, s.2.1, ()) with
 | none => none
 | some r0 =>
  some (r0.1, ())
def unicode_utf8_ValidRune (s : (Int) × Unit) : Option ((Bool) × Unit) :=
 bif (decide (((0 : Int) : Int) ≤ s.1)) then
  bif (decide ((s.1 : Int) < (55296 : Int))) then
   some (true, ())
  else
   bif (decide (((57343 : Int) : Int) < s.1)) then
    bif (decide ((s.1 : Int) ≤ (1114111 : Int))) then
     some (true, ())
    else
     some (false, ())
   else
    some (false, ())
 else
  bif (decide (((57343 : Int) : Int) < s.1)) then
   bif (decide ((s.1 : Int) ≤ (1114111 : Int))) then
    some (true, ())
   else
    some (false, ())
  else
   some (false, ())
def strings_IndexRune_b0 (s : runtime_errorAddressString) : Option ((runtime_errorAddressString) ⊕ (((Int) × Unit) ⊕ (Unit))) :=
 bif (decide ((s.2.1 : Int) < (List.length s.1 : Int))) then
  let t0 : Bool := (decide (((runeAt s.1 s.2.1).1 : Int) = (65533 : Int)))
  bif t0 then
   some (.inr (.inl (s.2.1, ())))
  else
   some (.inl (s.1, (s.2.1 + (runeAt s.1 s.2.1).2), ()))
 else
  some (.inr (.inr (())))
def strings_IndexRune_l0 (s : runtime_errorAddressString) : Option (((Int) × Unit) ⊕ (Unit)) := loopO (strings_IndexRune_b0) s
def strings_IndexRune_j0 (s : (List UInt8) × (Int) × (Bool) × Unit) : Option ((Int) × Unit) :=
 bif s.2.2.1 then
  match strings_IndexByte (s.1, (IntKind.u8.wrap s.2.1), ()) with
  | none => none
  | some r0 =>
   some (r0.1, ())
 else
  bif (decide ((s.2.1 : Int) = (65533 : Int))) then
   match strings_IndexRune_l0 (s.1, (0 : Int), ()) with
   | none => none
   | some (.inl z0) =>
    some (z0.1, ())
   | some (.inr z0) =>
    some ((-1 : Int), ())
  else
   match unicode_utf8_ValidRune (s.2.1, ()) with
   | none => none
   | some r0 =>
    bif (!r0.1) then
     some ((-1 : Int), ())
    else
     none

def strings_IndexRune (s : runtime_errorAddressString) : Option ((Int) × Unit) :=
 bif (decide (((0 : Int) : Int) ≤ s.2.1)) then
  strings_IndexRune_j0 (s.1, s.2.1, (decide ((s.2.1 : Int) < (128 : Int))), ())
 else
  strings_IndexRune_j0 (s.1, s.2.1, false, ())
def strings_shouldUseASCIISet (s : (Int) × Unit) : Option ((Bool) × Unit) :=
 some ((decide ((s.1 : Int) > (8 : Int))), ())
def strings_IndexAny_s_b1 (s : api_Pair) : Option ((api_Pair) ⊕ (((Int) × Unit) ⊕ (Unit))) :=
 bif (decide ((s.2.2.1 : Int) < (List.length s.2.1 : Int))) then
  match strings_IndexRune (s.1, (runeAt s.2.1 s.2.2.1).1, ()) with
  | none => none
  | some r0 =>
   bif (decide ((r0.1 : Int) ≥ (0 : Int))) then
    some (.inr (.inl (s.2.2.1, ())))
   else
    some (.inl (s.1, s.2.1, (s.2.2.1 + (runeAt s.2.1 s.2.2.1).2), ()))
 else
  some (.inr (.inr (())))
def strings_IndexAny_s_l1 (s : api_Pair) : Option (((Int) × Unit) ⊕ (Unit)) := loopO (strings_IndexAny_s_b1) s
def strings_IndexAny_s (s : api_Span) : Option ((Int) × Unit) :=
 let t0 : Bool := (decide ((s.2.1 : List UInt8) = ([] : List UInt8)))
 bif t0 then
  some ((-1 : Int), ())
 else
  let t1 : Bool := (decide ((((List.length s.2.1) : Int) : Int) = (1 : Int)))
  bif t1 then
   bif (decide (((0 : Int) : Int) < (List.length s.2.1 : Int))) then
    let t2 : Int := (IntKind.i32.wrap ((List.getD s.2.1 0 0).toNat : Int))
    bif (decide ((t2 : Int) ≥ (128 : Int))) then
     match strings_IndexRune (s.1, (65533 : Int), ()) with
     | none => none
     | some r3 =>
      some (r3.1, ())
    else
     match strings_IndexRune (s.1, t2, ()) with
     | none => none
     | some r3 =>
      some (r3.1, ())
   else
    none
  else
   match strings_shouldUseASCIISet (((List.length s.1) : Int), ()) with
   | none => none
   | some r2 =>
    bif r2.1 then
     none
    else
     match strings_IndexAny_s_l1 (s.2.1, s.1, (0 : Int), ()) with
     | none => none
     | some (.inl z3) =>
      some (z3.1, ())
     | some (.inr z3) =>
      some ((-1 : Int), ())
def strings_IndexAny (s : api_Span) : Option ((Int) × Unit) := orE (strings_IndexAny_s s) (anyLong s)
def path_rest_upTo (s : (List UInt8) × (List UInt8) × (Int) × (Int) × (List UInt8) × Unit) : Option ((List UInt8) × (Int) × (List UInt8) × (List UInt8) × (Int) × (Int) × (List UInt8) × Unit) :=
 match strings_IndexAny (s.1, ([1, 2, 3] : List UInt8), ()) with
 | none => none
 | some r0 =>
  bif (decide ((r0.1 : Int) < (0 : Int))) then
   some (([] : List UInt8), (0 : Int), s.1, s.2.1, s.2.2.1, s.2.2.2.1, s.2.2.2.2.1, ())
  else
   bif (decide (((0 : Int) : Int) ≤ r0.1) && decide ((r0.1 : Int) ≤ (List.length s.1 : Int))) then
    let t1 : List UInt8 := (List.drop 0 (List.take (Int.toNat r0.1) s.1))
    bif (decide ((0 : Int) ≤ r0.1) && decide ((r0.1 : Int) < (List.length s.1 : Int))) then
     let t2 : Int := ((List.getD s.1 (Int.toNat r0.1) 0).toNat : Int)
     bif (decide ((0 : Int) ≤ (IntKind.i64.wrap (r0.1 + (1 : Int)))) && decide (((IntKind.i64.wrap (r0.1 + (1 : Int))) : Int) ≤ (List.length s.1 : Int)) && decide (((List.length s.1 : Int) : Int) ≤ (List.length s.1 : Int))) then
      let t3 : List UInt8 := (List.drop (Int.toNat (IntKind.i64.wrap (r0.1 + (1 : Int)))) (List.take (Int.toNat (List.length s.1 : Int)) s.1))
      some (t1, t2, t3, s.2.1, s.2.2.1, s.2.2.2.1, s.2.2.2.2.1, ())
     else
      none
    else
     none
   else
    none
def path_place_read_j1 (s : (Int) × (Bool) × (List UInt8) × (List UInt8) × (Int) × (Int) × (List UInt8) × Unit) : Option ((List UInt8) × (List UInt8) × (Int) × (Int) × (List UInt8) × Unit) :=
 bif s.2.1 then
  bif (decide (((0 : Int) : Int) < (List.length s.2.2.1 : Int))) then
   let t0 : Int := (IntKind.i64.wrap ((List.getD s.2.2.1 0 0).toNat : Int))
   let t1 : Int := (IntKind.i64.wrap (t0 * 2 ^ (min (Int.toNat (8 : Int)) IntKind.i64.bits)))
   bif (decide (((1 : Int) : Int) < (List.length s.2.2.1 : Int))) then
    let t2 : Int := ((List.getD s.2.2.1 (Int.toNat (1 : Int)) 0).toNat : Int)
    let t3 : Int := (IntKind.i64.wrap ((BitVec.ofInt IntKind.i64.bits t1 ||| BitVec.ofInt IntKind.i64.bits (IntKind.i64.wrap t2)).toNat : Int))
    some (s.2.2.1, s.2.2.2.1, s.2.2.2.2.1, t3, s.2.2.2.2.2.2.1, ())
   else
    none
  else
   none
 else
  bif (decide ((s.1 : Int) = (3 : Int))) then
   some (s.2.2.1, s.2.2.2.1, s.2.2.2.2.1, s.2.2.2.2.2.1, s.2.2.1, ())
  else
   some (s.2.2.1, s.2.2.2.1, s.2.2.2.2.1, s.2.2.2.2.2.1, s.2.2.2.2.2.2.1, ())
def path_place_read_j0 (s : (Int) × (Bool) × (List UInt8) × (List UInt8) × (Int) × (Int) × (List UInt8) × Unit) : Option ((List UInt8) × (List UInt8) × (Int) × (Int) × (List UInt8) × Unit) :=
 bif s.2.1 then
  some (s.2.2.1, s.2.2.2.1, (4 : Int), s.2.2.2.2.2.1, s.2.2.2.2.2.2.1, ())
 else
  bif (decide ((s.1 : Int) = (2 : Int))) then
   let t0 : Bool := (decide ((((List.length s.2.2.1) : Int) : Int) = (2 : Int)))
   path_place_read_j1 (s.1, t0, s.2.2.1, s.2.2.2.1, s.2.2.2.2.1, s.2.2.2.2.2.1, s.2.2.2.2.2.2.1, ())
  else
   path_place_read_j1 (s.1, false, s.2.2.1, s.2.2.2.1, s.2.2.2.2.1, s.2.2.2.2.2.1, s.2.2.2.2.2.2.1, ())

def path_place_read (s : (List UInt8) × (List UInt8) × (Int) × (Int) × (List UInt8) × Unit) : Option ((List UInt8) × (List UInt8) × (Int) × (Int) × (List UInt8) × Unit) :=
 match strings_CutPrefix (s.1, ([6] : List UInt8), ()) with
 | none => none
 | some r0 =>
  match path_rest_upTo (r0.1, s.2.1, s.2.2.1, s.2.2.2.1, s.2.2.2.2.1, ()) with
  | none => none
  | some r1 =>
   bif r0.2.1 then
    path_place_read_j0 (r1.2.1, (decide ((r1.2.1 : Int) = (1 : Int))), r1.2.2.1, r1.1, (IntKind.i64.wrap r1.2.1), r1.2.2.2.2.2.1, r1.2.2.2.2.2.2.1, ())
   else
    path_place_read_j0 (r1.2.1, false, r1.2.2.1, r1.1, (IntKind.i64.wrap r1.2.1), r1.2.2.2.2.2.1, r1.2.2.2.2.2.2.1, ())
def internal_stringslite_Index_j0 (s : (List UInt8) × (List UInt8) × (Int) × (Bool) × Unit) : Option ((Int) × Unit) :=
 bif s.2.2.2.1 then
  some ((0 : Int), ())
 else
  bif (decide ((s.2.2.1 : Int) = (1 : Int))) then
   bif (decide (((0 : Int) : Int) < (List.length s.2.1 : Int))) then
    match internal_stringslite_IndexByte (s.1, ((List.getD s.2.1 0 0).toNat : Int), ()) with
    | none => none
    | some r0 =>
     some (r0.1, ())
   else
    none
  else
   let t0 : Bool := (decide ((s.2.2.1 : Int) ≥ ((List.length s.1) : Int)))
   bif t0 then
    some ((-1 : Int), ())
   else
    none

def internal_stringslite_Index (s : api_Span) : Option ((Int) × Unit) :=
 let t0 : Bool := (decide ((((List.length s.2.1) : Int) : Int) = (0 : Int)))
 bif (!t0) then
  internal_stringslite_Index_j0 (s.1, s.2.1, ((List.length s.2.1) : Int), (decide ((s.2.1 : List UInt8) = s.1)), ())
 else
  internal_stringslite_Index_j0 (s.1, s.2.1, ((List.length s.2.1) : Int), true, ())
def internal_stringslite_Cut (s : api_Span) : Option ((List UInt8) × (List UInt8) × (Bool) × Unit) :=
 match internal_stringslite_Index (s.1, s.2.1, ()) with
 | none => none
 | some r0 =>
  bif (decide ((r0.1 : Int) ≥ (0 : Int))) then
   bif (decide (((0 : Int) : Int) ≤ r0.1) && decide ((r0.1 : Int) ≤ (List.length s.1 : Int))) then
    let t1 : List UInt8 := (List.drop 0 (List.take (Int.toNat r0.1) s.1))
    let t2 : Int := (IntKind.i64.wrap (r0.1 + ((List.length s.2.1) : Int)))
    bif (decide ((0 : Int) ≤ t2) && decide ((t2 : Int) ≤ (List.length s.1 : Int)) && decide (((List.length s.1 : Int) : Int) ≤ (List.length s.1 : Int))) then
     let t3 : List UInt8 := (List.drop (Int.toNat t2) (List.take (Int.toNat (List.length s.1 : Int)) s.1))
     some (t1, t3, true, ())
    else
     none
   else
    none
  else
   some (s.1, ([] : List UInt8), false, ())
def strings_Cut (s : api_Span) : Option ((List UInt8) × (List UInt8) × (Bool) × Unit) :=
 match internal_stringslite_Cut (s.1, s.2.1, ()) with
 | none => none
 | some r0 =>
  some (r0.1, r0.2.1, r0.2.2.1, ())
def path_isNameC1 (s : (Int) × Unit) : Option ((Bool) × Unit) :=
 bif (!(decide ((s.1 : Int) < (33 : Int)))) then
  bif (!(decide ((s.1 : Int) > (126 : Int)))) then
   some ((decide ((s.1 : Int) = (47 : Int))), ())
  else
   some (true, ())
 else
  some (true, ())
def strings_indexFunc_b0 (s : (Bool) × (List UInt8) × (Int) × Unit) : Option (((Bool) × (List UInt8) × (Int) × Unit) ⊕ (((Int) × Unit) ⊕ (Unit))) :=
 bif (decide ((s.2.2.1 : Int) < (List.length s.2.1 : Int))) then
  match path_isNameC1 ((runeAt s.2.1 s.2.2.1).1, ()) with
  | none => none
  | some r0 =>
   bif (r0.1 == s.1) then
    some (.inr (.inl (s.2.2.1, ())))
   else
    some (.inl (s.1, s.2.1, (s.2.2.1 + (runeAt s.2.1 s.2.2.1).2), ()))
 else
  some (.inr (.inr (())))
def strings_indexFunc_l0 (s : (Bool) × (List UInt8) × (Int) × Unit) : Option (((Int) × Unit) ⊕ (Unit)) := loopO (strings_indexFunc_b0) s
def strings_indexFunc (s : (List UInt8) × (Bool) × Unit) : Option ((Int) × Unit) :=
 match strings_indexFunc_l0 (s.2.1, s.1, (0 : Int), ()) with
 | none => none
 | some (.inl z0) =>
  some (z0.1, ())
 | some (.inr z0) =>
  some ((-1 : Int), ())
def strings_IndexFunc (s : (List UInt8) × Unit) : Option ((Int) × Unit) :=
 match strings_indexFunc (s.1, true, ()) with
 | none => none
 | some r0 =>
  some (r0.1, ())
def path_isName (s : (List UInt8) × Unit) : Option ((Bool) × Unit) :=
 let t0 : Bool := (decide ((s.1 : List UInt8) = ([] : List UInt8)))
 bif (!t0) then
  let t1 : Bool := (decide ((((List.length s.1) : Int) : Int) > (12 : Int)))
  bif (!t1) then
   let t2 : Bool := (decide ((s.1 : List UInt8) = ([46] : List UInt8)))
   bif (!t2) then
    let t3 : Bool := (decide ((s.1 : List UInt8) = ([46, 46] : List UInt8)))
    bif t3 then
     some (false, ())
    else
     match strings_IndexFunc (s.1, ()) with
     | none => none
     | some r4 =>
      some ((decide ((r4.1 : Int) < (0 : Int))), ())
   else
    some (false, ())
  else
   some (false, ())
 else
  some (false, ())
def path_Valid_b0 (s : (List UInt8) × Unit) : Option (((List UInt8) × Unit) ⊕ (((Bool) × Unit) ⊕ (Unit))) :=
 let t0 : Bool := (!decide ((s.1 : List UInt8) = ([] : List UInt8)))
 bif t0 then
  match strings_Cut (s.1, ([47] : List UInt8), ()) with
  | none => none
  | some r1 =>
   bif (!(!r1.2.2.1)) then
    match path_isName (r1.1, ()) with
    | none => none
    | some r2 =>
     bif (!r2.1) then
      some (.inr (.inl (false, ())))
     else
      some (.inl (r1.2.1, ()))
   else
    some (.inr (.inl (false, ())))
 else
  some (.inr (.inr (())))
def path_Valid_l0 (s : (List UInt8) × Unit) : Option (((Bool) × Unit) ⊕ (Unit)) := loopO (path_Valid_b0) s
def path_Valid (s : (List UInt8) × Unit) : Option ((Bool) × Unit) :=
 match path_Valid_l0 (s.1, ()) with
 | none => none
 | some (.inl z0) =>
  some (z0.1, ())
 | some (.inr z0) =>
  some (true, ())
def strings_trimRightByte_b0_j0 (s : (List UInt8) × (Int) × (Bool) × Unit) : Option ((runtime_errorAddressString) ⊕ (((List UInt8) × Unit) ⊕ (Unit))) :=
 bif s.2.2.1 then
  let t0 : Int := (IntKind.i64.wrap (((List.length s.1) : Int) - (1 : Int)))
  bif (decide (((0 : Int) : Int) ≤ t0) && decide ((t0 : Int) ≤ (List.length s.1 : Int))) then
   let t1 : List UInt8 := (List.drop 0 (List.take (Int.toNat t0) s.1))
   some (.inl (t1, s.2.1, ()))
  else
   none
 else
  some (.inr (.inl (s.1, ())))

def strings_trimRightByte_b0 (s : runtime_errorAddressString) : Option ((runtime_errorAddressString) ⊕ (((List UInt8) × Unit) ⊕ (Unit))) :=
 let t0 : Bool := (decide ((((List.length s.1) : Int) : Int) > (0 : Int)))
 bif t0 then
  let t1 : Int := (IntKind.i64.wrap (((List.length s.1) : Int) - (1 : Int)))
  bif (decide ((0 : Int) ≤ t1) && decide ((t1 : Int) < (List.length s.1 : Int))) then
   let t2 : Int := ((List.getD s.1 (Int.toNat t1) 0).toNat : Int)
   strings_trimRightByte_b0_j0 (s.1, s.2.1, (decide ((t2 : Int) = s.2.1)), ())
  else
   none
 else
  strings_trimRightByte_b0_j0 (s.1, s.2.1, false, ())
def strings_trimRightByte_l0 (s : runtime_errorAddressString) : Option (((List UInt8) × Unit) ⊕ (Unit)) := loopO (strings_trimRightByte_b0) s
def strings_trimRightByte (s : runtime_errorAddressString) : Option ((List UInt8) × Unit) :=
 match strings_trimRightByte_l0 (s.1, s.2.1, ()) with
 | none => none
 | some (.inl z0) =>
  some (z0.1, ())
 | some (.inr z0) =>
  none
def strings_trimLeftByte_b0_j0 (s : (List UInt8) × (Int) × (Bool) × Unit) : Option ((runtime_errorAddressString) ⊕ (((List UInt8) × Unit) ⊕ (Unit))) :=
 bif s.2.2.1 then
  bif (decide (((1 : Int) : Int) ≤ (List.length s.1 : Int)) && decide (((List.length s.1 : Int) : Int) ≤ (List.length s.1 : Int))) then
   let t0 : List UInt8 := (List.drop (Int.toNat (1 : Int)) (List.take (Int.toNat (List.length s.1 : Int)) s.1))
   some (.inl (t0, s.2.1, ()))
  else
   none
 else
  some (.inr (.inl (s.1, ())))

def strings_trimLeftByte_b0 (s : runtime_errorAddressString) : Option ((runtime_errorAddressString) ⊕ (((List UInt8) × Unit) ⊕ (Unit))) :=
 let t0 : Bool := (decide ((((List.length s.1) : Int) : Int) > (0 : Int)))
 bif t0 then
  bif (decide (((0 : Int) : Int) < (List.length s.1 : Int))) then
   let t1 : Bool := (decide ((((List.getD s.1 0 0).toNat : Int) : Int) = s.2.1))
   strings_trimLeftByte_b0_j0 (s.1, s.2.1, t1, ())
  else
   none
 else
  strings_trimLeftByte_b0_j0 (s.1, s.2.1, false, ())
def strings_trimLeftByte_l0 (s : runtime_errorAddressString) : Option (((List UInt8) × Unit) ⊕ (Unit)) := loopO (strings_trimLeftByte_b0) s
def strings_trimLeftByte (s : runtime_errorAddressString) : Option ((List UInt8) × Unit) :=
 match strings_trimLeftByte_l0 (s.1, s.2.1, ()) with
 | none => none
 | some (.inl z0) =>
  some (z0.1, ())
 | some (.inr z0) =>
  none
def strings_Trim_j1 (s : (List UInt8) × (List UInt8) × (Bool) × Unit) : Option ((List UInt8) × Unit) :=
 bif s.2.2.1 then
  bif (decide (((0 : Int) : Int) < (List.length s.2.1 : Int))) then
   match strings_trimRightByte (s.1, ((List.getD s.2.1 0 0).toNat : Int), ()) with
   | none => none
   | some r0 =>
    bif (decide (((0 : Int) : Int) < (List.length s.2.1 : Int))) then
     match strings_trimLeftByte (r0.1, ((List.getD s.2.1 0 0).toNat : Int), ()) with
     | none => none
     | some r1 =>
      some (r1.1, ())
    else
     none
  else
   none
 else
  none
def strings_Trim_j0 (s : (List UInt8) × (List UInt8) × (Bool) × Unit) : Option ((List UInt8) × Unit) :=
 bif s.2.2.1 then
  some (s.1, ())
 else
  let t0 : Bool := (decide ((((List.length s.2.1) : Int) : Int) = (1 : Int)))
  bif t0 then
   bif (decide (((0 : Int) : Int) < (List.length s.2.1 : Int))) then
    let t1 : Bool := (decide ((((List.getD s.2.1 0 0).toNat : Int) : Int) < (128 : Int)))
    strings_Trim_j1 (s.1, s.2.1, t1, ())
   else
    none
  else
   strings_Trim_j1 (s.1, s.2.1, false, ())

def strings_Trim (s : api_Span) : Option ((List UInt8) × Unit) :=
 let t0 : Bool := (decide ((s.1 : List UInt8) = ([] : List UInt8)))
 bif (!t0) then
  let t1 : Bool := (decide ((s.2.1 : List UInt8) = ([] : List UInt8)))
  strings_Trim_j0 (s.1, s.2.1, t1, ())
 else
  strings_Trim_j0 (s.1, s.2.1, true, ())
def path_isBody_j0 (s : (List UInt8) × (Bool) × Unit) : Option ((Bool) × Unit) :=
 bif s.2.1 then
  some (false, ())
 else
  bif (decide (((9 : Int) : Int) ≤ (List.length s.1 : Int))) then
   let t0 : List UInt8 := (List.drop (Int.toNat (1 : Int)) (List.take (Int.toNat (9 : Int)) s.1))
   match strings_Trim (t0, ([48, 49, 50, 51, 52, 53, 54, 55, 56, 57, 97, 98, 99, 100, 101, 102] : List UInt8), ()) with
   | none => none
   | some r1 =>
    let t2 : Bool := (decide ((r1.1 : List UInt8) = ([] : List UInt8)))
    some (t2, ())
  else
   none

def path_isBody (s : (List UInt8) × Unit) : Option ((Bool) × Unit) :=
 let t0 : Bool := (!decide ((((List.length s.1) : Int) : Int) = (10 : Int)))
 bif (!t0) then
  bif (decide (((0 : Int) : Int) < (List.length s.1 : Int))) then
   let t1 : Bool := (!decide ((((List.getD s.1 0 0).toNat : Int) : Int) = (5 : Int)))
   bif (!t1) then
    bif (decide (((1 : Int) : Int) < (List.length s.1 : Int))) then
     let t2 : Int := ((List.getD s.1 (Int.toNat (1 : Int)) 0).toNat : Int)
     bif (!(decide ((t2 : Int) > (55 : Int)))) then
      bif (decide (((9 : Int) : Int) < (List.length s.1 : Int))) then
       let t3 : Int := ((List.getD s.1 (Int.toNat (9 : Int)) 0).toNat : Int)
       path_isBody_j0 (s.1, (!decide ((t3 : Int) = (47 : Int))), ())
      else
       none
     else
      path_isBody_j0 (s.1, true, ())
    else
     none
   else
    path_isBody_j0 (s.1, true, ())
  else
   none
 else
  path_isBody_j0 (s.1, true, ())
def path_Key_c100010 (s : (Bool) × (api_Place) × Unit) : Option ((Unit) ⊕ (runtime_errorAddressString)) :=
 bif s.1 then
  bif (decide (List.length ([6] : List UInt8) + List.length s.2.1.1 ≤ roomMax)) then
   bif (decide (List.length (([6] : List UInt8) ++ s.2.1.1) + List.length ([1] : List UInt8) ≤ roomMax)) then
    let t0 : List UInt8 := ((([6] : List UInt8) ++ s.2.1.1) ++ ([1] : List UInt8))
    some (.inr (t0, (0 : Int), ()))
   else
    none
  else
   none
 else
  some (.inl (()))
def path_Key_c100008 (s : (Bool) × (api_Place) × (List UInt8) × (Int) × (Int) × (List UInt8) × Unit) : Option ((Unit) ⊕ (runtime_errorAddressString)) :=
 bif s.1 then
  bif (decide (List.length s.2.1.1 + List.length ([3] : List UInt8) ≤ roomMax)) then
   bif (decide (List.length (s.2.1.1 ++ ([3] : List UInt8)) + List.length s.2.1.2.2.2.1 ≤ roomMax)) then
    let t0 : List UInt8 := ((s.2.1.1 ++ ([3] : List UInt8)) ++ s.2.1.2.2.2.1)
    some (.inr (t0, (0 : Int), ()))
   else
    none
  else
   none
 else
  bif (decide ((s.2.1.2.1 : Int) = (4 : Int))) then
   let t0 : Bool := (Ty.eqb tapi_Place s.2.1 (s.2.2.1, (s.2.2.2.1, (s.2.2.2.2.1, (s.2.2.2.2.2.1, ())))))
   match path_Key_c100010 (t0, s.2.1, ()) with
   | none => none
   | some (.inl z1) =>
    some (.inl (()))
   | some (.inr z1) =>
    some (.inr (z1.1, z1.2.1, ()))
  else
   match path_Key_c100010 (false, s.2.1, ()) with
   | none => none
   | some (.inl z0) =>
    some (.inl (()))
   | some (.inr z0) =>
    some (.inr (z0.1, z0.2.1, ()))
def path_Key_c100006 (s : (Bool) × (api_Place) × (List UInt8) × (Int) × (Int) × (List UInt8) × Unit) : Option ((Unit) ⊕ (runtime_errorAddressString)) :=
 bif s.1 then
  let t0 : Int := (Int.fdiv s.2.1.2.2.1 (2 ^ (min (Int.toNat (8 : Int)) IntKind.i64.bits)))
  let t1 : List UInt8 := (sOfBytes ([(2 : Int), (IntKind.u8.wrap t0), (IntKind.u8.wrap s.2.1.2.2.1)] : List (Int)))
  bif (decide (List.length s.2.1.1 + List.length t1 ≤ roomMax)) then
   some (.inr ((s.2.1.1 ++ t1), (0 : Int), ()))
  else
   none
 else
  bif (decide ((s.2.1.2.1 : Int) = (3 : Int))) then
   let t0 : Bool := (decide ((s.2.1.2.2.1 : Int) = (0 : Int)))
   bif t0 then
    match path_isName (s.2.1.2.2.2.1, ()) with
    | none => none
    | some r1 =>
     match path_Key_c100008 (r1.1, s.2.1, s.2.2.1, s.2.2.2.1, s.2.2.2.2.1, s.2.2.2.2.2.1, ()) with
     | none => none
     | some (.inl z2) =>
      some (.inl (()))
     | some (.inr z2) =>
      some (.inr (z2.1, z2.2.1, ()))
   else
    match path_Key_c100008 (false, s.2.1, s.2.2.1, s.2.2.2.1, s.2.2.2.2.1, s.2.2.2.2.2.1, ()) with
    | none => none
    | some (.inl z1) =>
     some (.inl (()))
    | some (.inr z1) =>
     some (.inr (z1.1, z1.2.1, ()))
  else
   match path_Key_c100008 (false, s.2.1, s.2.2.1, s.2.2.2.1, s.2.2.2.2.1, s.2.2.2.2.2.1, ()) with
   | none => none
   | some (.inl z0) =>
    some (.inl (()))
   | some (.inr z0) =>
    some (.inr (z0.1, z0.2.1, ()))
def path_Key_c100004 (s : (Bool) × (api_Place) × (List UInt8) × (Int) × (Int) × (List UInt8) × Unit) : Option ((Unit) ⊕ (runtime_errorAddressString)) :=
 bif s.1 then
  bif (decide (List.length s.2.1.1 + List.length ([1] : List UInt8) ≤ roomMax)) then
   some (.inr ((s.2.1.1 ++ ([1] : List UInt8)), (0 : Int), ()))
  else
   none
 else
  bif (decide ((s.2.1.2.1 : Int) = (2 : Int))) then
   let t0 : Bool := (decide ((s.2.1.2.2.2.1 : List UInt8) = ([] : List UInt8)))
   bif t0 then
    let t1 : Bool := (decide ((s.2.1.2.2.1 : Int) ≥ (0 : Int)))
    bif t1 then
     let t2 : Bool := (decide ((s.2.1.2.2.1 : Int) ≤ (60000 : Int)))
     match path_Key_c100006 (t2, s.2.1, s.2.2.1, s.2.2.2.1, s.2.2.2.2.1, s.2.2.2.2.2.1, ()) with
     | none => none
     | some (.inl z3) =>
      some (.inl (()))
     | some (.inr z3) =>
      some (.inr (z3.1, z3.2.1, ()))
    else
     match path_Key_c100006 (false, s.2.1, s.2.2.1, s.2.2.2.1, s.2.2.2.2.1, s.2.2.2.2.2.1, ()) with
     | none => none
     | some (.inl z2) =>
      some (.inl (()))
     | some (.inr z2) =>
      some (.inr (z2.1, z2.2.1, ()))
   else
    match path_Key_c100006 (false, s.2.1, s.2.2.1, s.2.2.2.1, s.2.2.2.2.1, s.2.2.2.2.2.1, ()) with
    | none => none
    | some (.inl z1) =>
     some (.inl (()))
    | some (.inr z1) =>
     some (.inr (z1.1, z1.2.1, ()))
  else
   match path_Key_c100006 (false, s.2.1, s.2.2.1, s.2.2.2.1, s.2.2.2.2.1, s.2.2.2.2.2.1, ()) with
   | none => none
   | some (.inl z0) =>
    some (.inl (()))
   | some (.inr z0) =>
    some (.inr (z0.1, z0.2.1, ()))
def path_Key_c300003 (s : (Bool) × (api_Place) × (List UInt8) × (Int) × (Int) × (List UInt8) × Unit) : Option ((Unit) ⊕ (runtime_errorAddressString)) :=
 bif s.1 then
  bif (decide ((s.2.1.2.1 : Int) = (1 : Int))) then
   let t0 : Bool := (Ty.eqb tapi_Place s.2.1 (s.2.2.1, (s.2.2.2.1, (s.2.2.2.2.1, (s.2.2.2.2.2.1, ())))))
   match path_Key_c100004 (t0, s.2.1, s.2.2.1, s.2.2.2.1, s.2.2.2.2.1, s.2.2.2.2.2.1, ()) with
   | none => none
   | some (.inl z1) =>
    some (.inl (()))
   | some (.inr z1) =>
    some (.inr (z1.1, z1.2.1, ()))
  else
   match path_Key_c100004 (false, s.2.1, s.2.2.1, s.2.2.2.1, s.2.2.2.2.1, s.2.2.2.2.2.1, ()) with
   | none => none
   | some (.inl z0) =>
    some (.inl (()))
   | some (.inr z0) =>
    some (.inr (z0.1, z0.2.1, ()))
 else
  some (.inl (()))
def path_Key (s : (api_Place) × Unit) : Option (runtime_errorAddressString) :=
 match path_Valid (s.1.1, ()) with
 | none => none
 | some r0 =>
  bif (!r0.1) then
   match path_isBody (s.1.1, ()) with
   | none => none
   | some r1 =>
    bif r1.1 then
     match path_Key_c300003 ((!decide ((s.1.2.1 : Int) = (4 : Int))), s.1, s.1.1, s.1.2.1, (0 : Int), ([] : List UInt8), ()) with
     | none => none
     | some (.inl z2) =>
      some (([] : List UInt8), (12 : Int), ())
     | some (.inr z2) =>
      some (z2.1, z2.2.1, ())
    else
     match path_Key_c300003 (false, s.1, s.1.1, s.1.2.1, (0 : Int), ([] : List UInt8), ()) with
     | none => none
     | some (.inl z2) =>
      some (([] : List UInt8), (12 : Int), ())
     | some (.inr z2) =>
      some (z2.1, z2.2.1, ())
  else
   match path_Key_c300003 (true, s.1, s.1.1, s.1.2.1, (0 : Int), ([] : List UInt8), ()) with
   | none => none
   | some (.inl z1) =>
    some (([] : List UInt8), (12 : Int), ())
   | some (.inr z1) =>
    some (z1.1, z1.2.1, ())
def path_Place (s : (List UInt8) × Unit) : Option ((api_Place) × (Int) × Unit) :=
 match path_place_read (s.1, ([] : List UInt8), (0 : Int), (0 : Int), ([] : List UInt8), ()) with
 | none => none
 | some r0 =>
  match path_Key ((r0.2.1, (r0.2.2.1, (r0.2.2.2.1, (r0.2.2.2.2.1, ())))), ()) with
  | none => none
  | some r1 =>
   bif (!(!decide ((r1.2.1 : Int) = (0 : Int)))) then
    bif (!decide ((r1.1 : List UInt8) = s.1)) then
     some ((([] : List UInt8), ((0 : Int), ((0 : Int), (([] : List UInt8), ())))), (12 : Int), ())
    else
     some ((r0.2.1, (r0.2.2.1, (r0.2.2.2.1, (r0.2.2.2.2.1, ())))), (0 : Int), ())
   else
    some ((([] : List UInt8), ((0 : Int), ((0 : Int), (([] : List UInt8), ())))), (12 : Int), ())
def entry_Charge (s : (api_Pair) × Unit) : Option (quota_amount) :=
 match path_Place (s.1.1, ()) with
 | none => none
 | some r0 =>
  bif (!decide ((r0.2.1 : Int) = (0 : Int))) then
   some (((0 : Int), ((0 : Int), ())), ())
  else
   bif (decide ((r0.1.2.1 : Int) = (1 : Int))) then
    some (((1 : Int), ((0 : Int), ())), ())
   else
    bif (decide ((r0.1.2.1 : Int) = (4 : Int))) then
     some (((0 : Int), ((0 : Int), ())), ())
    else
     some (((0 : Int), (((List.length s.1.2.1) : Int), ())), ())
def entry_Total_b0 (s : (List (api_Pair)) × (Int) × (Int) × (Int) × (Int) × (Int) × (Int) × Unit) : Option (((List (api_Pair)) × (Int) × (Int) × (Int) × (Int) × (Int) × (Int) × Unit) ⊕ (((Int) × (Int) × (Int) × (Int) × Unit) ⊕ (Unit))) :=
 bif (decide ((s.2.2.1 : Int) < s.2.1)) then
  bif (decide ((0 : Int) ≤ s.2.2.1) && decide ((s.2.2.1 : Int) < (List.length s.1 : Int))) then
   let t0 : api_Pair := (List.getD s.1 (Int.toNat s.2.2.1) (([] : List UInt8), (([] : List UInt8), ((0 : Int), ()))))
   match entry_Charge (t0, ()) with
   | none => none
   | some r1 =>
    let t2 : Int := (IntKind.i64.wrap (s.2.2.2.2.2.1 + r1.1.1))
    let t3 : Int := (IntKind.i64.wrap (s.2.2.2.2.2.2.1 + r1.1.2.1))
    some (.inl (s.1, s.2.1, (IntKind.i64.wrap (s.2.2.1 + (1 : Int))), s.2.2.2.1, s.2.2.2.2.1, t2, t3, ()))
  else
   none
 else
  some (.inr (.inl (s.2.2.2.1, s.2.2.2.2.1, s.2.2.2.2.2.1, s.2.2.2.2.2.2.1, ())))
def entry_Total_l0 (s : (List (api_Pair)) × (Int) × (Int) × (Int) × (Int) × (Int) × (Int) × Unit) : Option (((Int) × (Int) × (Int) × (Int) × Unit) ⊕ (Unit)) := loopO (entry_Total_b0) s
def entry_Total (s : (List (api_Pair)) × Unit) : Option (quota_amount) :=
 match entry_Total_l0 (s.1, ((List.length s.1) : Int), (0 : Int), (0 : Int), (0 : Int), (0 : Int), (0 : Int), ()) with
 | none => none
 | some (.inl z0) =>
  some ((z0.2.2.1, (z0.2.2.2.1, ())), ())
 | some (.inr z0) =>
  none
def quota_measure (s : (List (api_Pair)) × (List UInt8) × Unit) : Option ((quota_measured) × Unit) :=
 match span_Prefix (s.2.1, ()) with
 | none => none
 | some r0 =>
  match table_Range (s.1, r0.1, ()) with
  | none => none
  | some r1 =>
   match entry_Total (r1.1, ()) with
   | none => none
   | some r2 =>
    some (((r2.1, ()), (s.2.1, ())), ())
def quota_Of (s : (List (api_Pair)) × (List UInt8) × Unit) : Option (quota_amount) :=
 match quota_measure (s.1, s.2.1, ()) with
 | none => none
 | some r0 =>
  some (r0.1.1.1, ())
def law20_q (s : (List UInt8) × (Int) × (Int) × Unit) : Option ((api_Quota) × Unit) :=
 some ((s.1, ((s.2.1, (s.2.2.1, ())), ())), ())
def quota_amount_within (s : (quota_amount) × (api_Use) × Unit) : Option ((Bool) × Unit) :=
 bif (decide ((s.1.1.1 : Int) ≤ s.2.1.1)) then
  some ((decide ((s.1.1.2.1 : Int) ≤ s.2.1.2.1)), ())
 else
  some (false, ())
def quota_FitsC1 (s : (api_Quota) × (List (api_Pair)) × Unit) : Option ((Bool) × (List (api_Pair)) × Unit) :=
 match quota_measure (s.2.1, s.1.1, ()) with
 | none => none
 | some r0 =>
  match quota_amount_within (r0.1.1, s.1.2.1, ()) with
  | none => none
  | some r1 =>
   some ((!r1.1), s.2.1, ())
def slices_IndexFunc_api_Quota_api_Quota_b0 (s : (List (api_Quota)) × (Int) × (Int) × (List (api_Pair)) × Unit) : Option (((List (api_Quota)) × (Int) × (Int) × (List (api_Pair)) × Unit) ⊕ (((Int) × (List (api_Pair)) × Unit) ⊕ ((List (api_Pair)) × Unit))) :=
 bif (decide ((s.2.2.1 : Int) < s.2.1)) then
  bif (decide ((0 : Int) ≤ s.2.2.1) && decide ((s.2.2.1 : Int) < (List.length s.1 : Int))) then
   let t0 : api_Quota := (List.getD s.1 (Int.toNat s.2.2.1) (([] : List UInt8), (((0 : Int), ((0 : Int), ())), ())))
   match quota_FitsC1 (t0, s.2.2.2.1, ()) with
   | none => none
   | some r1 =>
    bif r1.1 then
     some (.inr (.inl (s.2.2.1, r1.2.1, ())))
    else
     some (.inl (s.1, s.2.1, (IntKind.i64.wrap (s.2.2.1 + (1 : Int))), r1.2.1, ()))
  else
   none
 else
  some (.inr (.inr (s.2.2.2.1, ())))
def slices_IndexFunc_api_Quota_api_Quota_l0 (s : (List (api_Quota)) × (Int) × (Int) × (List (api_Pair)) × Unit) : Option (((Int) × (List (api_Pair)) × Unit) ⊕ ((List (api_Pair)) × Unit)) := loopO (slices_IndexFunc_api_Quota_api_Quota_b0) s
def slices_IndexFunc_api_Quota_api_Quota (s : (List (api_Quota)) × (List (api_Pair)) × Unit) : Option ((Int) × (List (api_Pair)) × Unit) :=
 match slices_IndexFunc_api_Quota_api_Quota_l0 (s.1, ((List.length s.1) : Int), (0 : Int), s.2.1, ()) with
 | none => none
 | some (.inl z0) =>
  some (z0.1, z0.2.1, ())
 | some (.inr z0) =>
  some ((-1 : Int), z0.1, ())
def slices_ContainsFunc_api_Quota_api_Quota (s : (List (api_Quota)) × (List (api_Pair)) × Unit) : Option ((Bool) × (List (api_Pair)) × Unit) :=
 match slices_IndexFunc_api_Quota_api_Quota (s.1, s.2.1, ()) with
 | none => none
 | some r0 =>
  some ((decide ((r0.1 : Int) ≥ (0 : Int))), r0.2.1, ())
def quota_Fits (s : (List (api_Pair)) × (List (api_Quota)) × Unit) : Option ((Bool) × Unit) :=
 match slices_ContainsFunc_api_Quota_api_Quota (s.2.1, s.1, ()) with
 | none => none
 | some r0 =>
  some ((!r0.1), ())
def slices_Clone_api_Pair_api_Pair (s : (List (api_Pair)) × Unit) : Option ((List (api_Pair)) × Unit) := bif (decide ((List.length ([] : List (api_Pair)) + List.length s.1) * 40 ≤ roomMax)) then some (s.1, ()) else none
def slices_Insert_api_Pair_api_Pair (s : (Int) × (List (api_Pair)) × (List (api_Pair)) × Unit) : Option ((List (api_Pair)) × (List (api_Pair)) × Unit) := insF 40 s
def table_Put (s : (List (api_Pair)) × (api_Pair) × Unit) : Option ((List (api_Pair)) × Unit) :=
 match table_place (s.1, s.2.1.1, ()) with
 | none => none
 | some r0 =>
  match slices_Clone_api_Pair_api_Pair (s.1, ()) with
  | none => none
  | some r1 =>
   bif r0.2.1 then
    bif (decide ((0 : Int) ≤ r0.1) && decide ((r0.1 : Int) < (List.length r1.1 : Int))) then
     some ((List.set r1.1 (Int.toNat r0.1) s.2.1), ())
    else
     none
   else
    match slices_Insert_api_Pair_api_Pair (r0.1, r1.1, ([s.2.1] : List (api_Pair)), ()) with
    | none => none
    | some r2 =>
     some (r2.2.1, ())
def msg_put_apply (s : (api_Msg) × (List (api_Pair)) × Unit) : Option ((List (api_Pair)) × Unit) :=
 match table_Put (s.2.1, (s.1.2.1, (s.1.2.2.1, (s.1.2.2.2.2.2.2.1, ()))), ()) with
 | none => none
 | some r0 =>
  some (r0.1, ())
def span_One (s : (List UInt8) × Unit) : Option ((api_Span) × Unit) :=
 bif (decide (List.length s.1 + List.length ([0] : List UInt8) ≤ roomMax)) then
  some ((s.1, ((s.1 ++ ([0] : List UInt8)), ())), ())
 else
  none
def slices_Grow_api_Pair_api_Pair (s : (Int) × Unit) : Option ((List (api_Pair)) × Unit) :=
 bif (decide ((s.1 : Int) < (0 : Int))) then
  none
 else
  let t0 : Int := (IntKind.i64.wrap ((0 : Int) - (0 : Int)))
  let t1 : Bool := (decide (((IntKind.i64.wrap (s.1 - t0)) : Int) > (0 : Int)))
  bif t1 then
   bif (decide ((0 : Int) < (IntKind.i64.wrap (s.1 - t0))) && decide ((IntKind.i64.wrap (s.1 - t0)) * (40 : Int) ≤ (roomMax : Int))) then
    bif (decide (((0 : Int) : Int) ≤ (List.length (List.replicate (Int.toNat (IntKind.i64.wrap (s.1 - t0))) (([] : List UInt8), (([] : List UInt8), ((0 : Int), ())))) : Int))) then
     let t2 : List (api_Pair) := (List.take 0 (List.replicate (Int.toNat (IntKind.i64.wrap (s.1 - t0))) (([] : List UInt8), (([] : List UInt8), ((0 : Int), ())))))
     some (t2, ())
    else
     none
   else
    none
  else
   some (([] : List (api_Pair)), ())
def slices_Concat_api_Pair_api_Pair_b0 (s : (List (List (api_Pair))) × (Int) × (List (List (api_Pair))) × (Int) × (Int) × Unit) : Option (((List (List (api_Pair))) × (Int) × (List (List (api_Pair))) × (Int) × (Int) × Unit) ⊕ (((List (List (api_Pair))) × (Int) × Unit) ⊕ (Unit))) :=
 let t0 : Bool := (decide ((s.2.2.2.2.1 : Int) < s.2.2.2.1))
 bif t0 then
  bif (decide ((0 : Int) ≤ s.2.2.2.2.1) && decide ((s.2.2.2.2.1 : Int) < (List.length s.2.2.1 : Int))) then
   let t1 : List (api_Pair) := (List.getD s.2.2.1 (Int.toNat s.2.2.2.2.1) ([] : List (api_Pair)))
   let t2 : Int := (IntKind.i64.wrap (s.2.1 + ((List.length t1) : Int)))
   bif (decide ((t2 : Int) < (0 : Int))) then
    none
   else
    let t3 : Int := (IntKind.i64.wrap (s.2.2.2.2.1 + (1 : Int)))
    some (.inl (s.1, t2, s.2.2.1, s.2.2.2.1, t3, ()))
  else
   none
 else
  some (.inr (.inl (s.1, s.2.1, ())))
def slices_Concat_api_Pair_api_Pair_l0 (s : (List (List (api_Pair))) × (Int) × (List (List (api_Pair))) × (Int) × (Int) × Unit) : Option (((List (List (api_Pair))) × (Int) × Unit) ⊕ (Unit)) := loopO (slices_Concat_api_Pair_api_Pair_b0) s
def slices_Concat_api_Pair_api_Pair_b1 (s : (List (List (api_Pair))) × (Int) × (Int) × (List (api_Pair)) × Unit) : Option (((List (List (api_Pair))) × (Int) × (Int) × (List (api_Pair)) × Unit) ⊕ (((List (api_Pair)) × Unit) ⊕ (Unit))) :=
 bif (decide ((s.2.2.1 : Int) < s.2.1)) then
  bif (decide ((0 : Int) ≤ s.2.2.1) && decide ((s.2.2.1 : Int) < (List.length s.1 : Int))) then
   let t0 : List (api_Pair) := (List.getD s.1 (Int.toNat s.2.2.1) ([] : List (api_Pair)))
   bif (decide ((List.length s.2.2.2.1 + List.length t0) * 40 ≤ roomMax)) then
    some (.inl (s.1, s.2.1, (IntKind.i64.wrap (s.2.2.1 + (1 : Int))), (s.2.2.2.1 ++ t0), ()))
   else
    none
  else
   none
 else
  some (.inr (.inl (s.2.2.2.1, ())))
def slices_Concat_api_Pair_api_Pair_l1 (s : (List (List (api_Pair))) × (Int) × (Int) × (List (api_Pair)) × Unit) : Option (((List (api_Pair)) × Unit) ⊕ (Unit)) := loopO (slices_Concat_api_Pair_api_Pair_b1) s
def slices_Concat_api_Pair_api_Pair (s : (List (List (api_Pair))) × Unit) : Option ((List (api_Pair)) × Unit) :=
 match slices_Concat_api_Pair_api_Pair_l0 (s.1, (0 : Int), s.1, ((List.length s.1) : Int), (0 : Int), ()) with
 | none => none
 | some (.inl z0) =>
  match slices_Grow_api_Pair_api_Pair (z0.2.1, ()) with
  | none => none
  | some r1 =>
   match slices_Concat_api_Pair_api_Pair_l1 (z0.1, ((List.length z0.1) : Int), (0 : Int), r1.1, ()) with
   | none => none
   | some (.inl z2) =>
    some (z2.1, ())
   | some (.inr z2) =>
    none
 | some (.inr z0) =>
  none
def table_Drop (s : (List (api_Pair)) × (api_Span) × Unit) : Option ((List (api_Pair)) × Unit) :=
 match table_bounds (s.1, s.2.1, ()) with
 | none => none
 | some r0 =>
  bif (decide (((0 : Int) : Int) ≤ r0.1) && decide ((r0.1 : Int) ≤ (List.length s.1 : Int))) then
   let t1 : List (api_Pair) := (List.drop 0 (List.take (Int.toNat r0.1) s.1))
   bif (decide ((0 : Int) ≤ r0.2.1) && decide ((r0.2.1 : Int) ≤ (List.length s.1 : Int)) && decide (((List.length s.1 : Int) : Int) ≤ (List.length s.1 : Int))) then
    let t2 : List (api_Pair) := (List.drop (Int.toNat r0.2.1) (List.take (Int.toNat (List.length s.1 : Int)) s.1))
    match slices_Concat_api_Pair_api_Pair (([t1, t2] : List (List (api_Pair))), ()) with
    | none => none
    | some r3 =>
     some (r3.1, ())
   else
    none
  else
   none
def table_Del (s : (List (api_Pair)) × (List UInt8) × Unit) : Option ((List (api_Pair)) × Unit) :=
 match span_One (s.2.1, ()) with
 | none => none
 | some r0 =>
  match table_Drop (s.1, r0.1, ()) with
  | none => none
  | some r1 =>
   some (r1.1, ())
def msg_del_apply (s : (api_Msg) × (List (api_Pair)) × Unit) : Option ((List (api_Pair)) × Unit) :=
 match table_Del (s.2.1, s.1.2.1, ()) with
 | none => none
 | some r0 =>
  some (r0.1, ())
def msg_drop_apply (s : (api_Msg) × (List (api_Pair)) × Unit) : Option ((List (api_Pair)) × Unit) :=
 match table_Drop (s.2.1, s.1.2.2.2.1, ()) with
 | none => none
 | some r0 =>
  some (r0.1, ())
def span_Moved (s : (List UInt8) × (List UInt8) × (List UInt8) × Unit) : Option ((List UInt8) × (Bool) × Unit) :=
 match strings_CutPrefix (s.1, s.2.1, ()) with
 | none => none
 | some r0 =>
  bif (!r0.2.1) then
   some (([] : List UInt8), false, ())
  else
   bif (decide (List.length s.2.2.1 + List.length r0.1 ≤ roomMax)) then
    some ((s.2.2.1 ++ r0.1), true, ())
   else
    none
def msg_moved_b0 (s : (List UInt8) × (List UInt8) × (Int) × (Int) × (List (api_Pair)) × Unit) : Option (((List UInt8) × (List UInt8) × (Int) × (Int) × (List (api_Pair)) × Unit) ⊕ (((List (api_Pair)) × Unit) ⊕ (Unit))) :=
 bif (decide ((s.2.2.2.1 : Int) < s.2.2.1)) then
  bif (decide ((0 : Int) ≤ s.2.2.2.1) && decide ((s.2.2.2.1 : Int) < (List.length s.2.2.2.2.1 : Int))) then
   let t0 : api_Pair := (List.getD s.2.2.2.2.1 (Int.toNat s.2.2.2.1) (([] : List UInt8), (([] : List UInt8), ((0 : Int), ()))))
   match span_Moved (t0.1, s.1, s.2.1, ()) with
   | none => none
   | some r1 =>
    bif (decide ((0 : Int) ≤ s.2.2.2.1) && decide ((s.2.2.2.1 : Int) < (List.length s.2.2.2.2.1 : Int))) then
     let t2 : List (api_Pair) := (List.set s.2.2.2.2.1 (Int.toNat s.2.2.2.1) (r1.1, (List.getD s.2.2.2.2.1 (Int.toNat s.2.2.2.1) (([] : List UInt8), (([] : List UInt8), ((0 : Int), ())))).2))
     let t3 : Int := (IntKind.i64.wrap (s.2.2.2.1 + (1 : Int)))
     some (.inl (s.1, s.2.1, s.2.2.1, t3, t2, ()))
    else
     none
  else
   none
 else
  some (.inr (.inl (s.2.2.2.2.1, ())))
def msg_moved_l0 (s : (List UInt8) × (List UInt8) × (Int) × (Int) × (List (api_Pair)) × Unit) : Option (((List (api_Pair)) × Unit) ⊕ (Unit)) := loopO (msg_moved_b0) s
def msg_moved (s : (List (api_Pair)) × (List UInt8) × (List UInt8) × Unit) : Option ((List (api_Pair)) × Unit) :=
 match span_Prefix (s.2.1, ()) with
 | none => none
 | some r0 =>
  match table_Range (s.1, r0.1, ()) with
  | none => none
  | some r1 =>
   match slices_Clone_api_Pair_api_Pair (r1.1, ()) with
   | none => none
   | some r2 =>
    match msg_moved_l0 (s.2.1, s.2.2.1, ((List.length r2.1) : Int), (0 : Int), r2.1, ()) with
    | none => none
    | some (.inl z3) =>
     some (z3.1, ())
    | some (.inr z3) =>
     none
def table_Union_b0_j0 (s : (List (api_Pair)) × (List (api_Pair)) × (List (api_Pair)) × Unit) : Option (((List (api_Pair)) × (List (api_Pair)) × (List (api_Pair)) × Unit) ⊕ (((List (api_Pair)) × (List (api_Pair)) × (List (api_Pair)) × Unit) ⊕ (Unit))) :=
 bif (decide (((0 : Int) : Int) < (List.length s.2.1 : Int))) then
  let t0 : api_Pair := (List.getD s.2.1 0 (([] : List UInt8), (([] : List UInt8), ((0 : Int), ()))))
  bif (decide ((List.length s.2.2.1 + List.length ([t0] : List (api_Pair))) * 40 ≤ roomMax)) then
   let t1 : List (api_Pair) := (s.2.2.1 ++ ([t0] : List (api_Pair)))
   bif (decide (((1 : Int) : Int) ≤ (List.length s.2.1 : Int)) && decide (((List.length s.2.1 : Int) : Int) ≤ (List.length s.2.1 : Int))) then
    let t2 : List (api_Pair) := (List.drop (Int.toNat (1 : Int)) (List.take (Int.toNat (List.length s.2.1 : Int)) s.2.1))
    some (.inl (s.1, t2, t1, ()))
   else
    none
  else
   none
 else
  none
def table_Union_b0_j1 (s : (List (api_Pair)) × (List (api_Pair)) × (Bool) × (List (api_Pair)) × Unit) : Option (((List (api_Pair)) × (List (api_Pair)) × (List (api_Pair)) × Unit) ⊕ (((List (api_Pair)) × (List (api_Pair)) × (List (api_Pair)) × Unit) ⊕ (Unit))) :=
 bif s.2.2.1 then
  some (.inr (.inl (s.1, s.2.1, s.2.2.2.1, ())))
 else
  bif (decide (((0 : Int) : Int) < (List.length s.1 : Int))) then
   let t0 : api_Pair := (List.getD s.1 0 (([] : List UInt8), (([] : List UInt8), ((0 : Int), ()))))
   bif (decide (((0 : Int) : Int) < (List.length s.2.1 : Int))) then
    let t1 : api_Pair := (List.getD s.2.1 0 (([] : List UInt8), (([] : List UInt8), ((0 : Int), ()))))
    bif (Op.bytesLess t0.1 t1.1) then
     bif (decide (((0 : Int) : Int) < (List.length s.1 : Int))) then
      let t2 : api_Pair := (List.getD s.1 0 (([] : List UInt8), (([] : List UInt8), ((0 : Int), ()))))
      bif (decide ((List.length s.2.2.2.1 + List.length ([t2] : List (api_Pair))) * 40 ≤ roomMax)) then
       let t3 : List (api_Pair) := (s.2.2.2.1 ++ ([t2] : List (api_Pair)))
       bif (decide (((1 : Int) : Int) ≤ (List.length s.1 : Int)) && decide (((List.length s.1 : Int) : Int) ≤ (List.length s.1 : Int))) then
        let t4 : List (api_Pair) := (List.drop (Int.toNat (1 : Int)) (List.take (Int.toNat (List.length s.1 : Int)) s.1))
        some (.inl (t4, s.2.1, t3, ()))
       else
        none
      else
       none
     else
      none
    else
     bif (decide (((0 : Int) : Int) < (List.length s.1 : Int))) then
      let t2 : api_Pair := (List.getD s.1 0 (([] : List UInt8), (([] : List UInt8), ((0 : Int), ()))))
      bif (decide (((0 : Int) : Int) < (List.length s.2.1 : Int))) then
       let t3 : api_Pair := (List.getD s.2.1 0 (([] : List UInt8), (([] : List UInt8), ((0 : Int), ()))))
       bif (decide ((t2.1 : List UInt8) = t3.1)) then
        bif (decide (((1 : Int) : Int) ≤ (List.length s.1 : Int)) && decide (((List.length s.1 : Int) : Int) ≤ (List.length s.1 : Int))) then
         let t4 : List (api_Pair) := (List.drop (Int.toNat (1 : Int)) (List.take (Int.toNat (List.length s.1 : Int)) s.1))
         table_Union_b0_j0 (t4, s.2.1, s.2.2.2.1, ())
        else
         none
       else
        table_Union_b0_j0 (s.1, s.2.1, s.2.2.2.1, ())
      else
       none
     else
      none
   else
    none
  else
   none

def table_Union_b0 (s : (List (api_Pair)) × (List (api_Pair)) × (List (api_Pair)) × Unit) : Option (((List (api_Pair)) × (List (api_Pair)) × (List (api_Pair)) × Unit) ⊕ (((List (api_Pair)) × (List (api_Pair)) × (List (api_Pair)) × Unit) ⊕ (Unit))) :=
 let t0 : Bool := (decide ((((List.length s.1) : Int) : Int) = (0 : Int)))
 bif (!t0) then
  let t1 : Bool := (decide ((((List.length s.2.1) : Int) : Int) = (0 : Int)))
  table_Union_b0_j1 (s.1, s.2.1, t1, s.2.2.1, ())
 else
  table_Union_b0_j1 (s.1, s.2.1, true, s.2.2.1, ())
def table_Union_l0 (s : (List (api_Pair)) × (List (api_Pair)) × (List (api_Pair)) × Unit) : Option (((List (api_Pair)) × (List (api_Pair)) × (List (api_Pair)) × Unit) ⊕ (Unit)) := loopO (table_Union_b0) s
def table_Union (s : (List (api_Pair)) × (List (api_Pair)) × Unit) : Option ((List (api_Pair)) × Unit) :=
 let t0 : Int := (IntKind.i64.wrap (((List.length s.1) : Int) + ((List.length s.2.1) : Int)))
 bif (decide ((0 : Int) ≤ (0 : Int)) && decide (((0 : Int) : Int) ≤ t0) && decide (t0 * (40 : Int) ≤ (roomMax : Int))) then
  match table_Union_l0 (s.1, s.2.1, (List.replicate 0 (([] : List UInt8), (([] : List UInt8), ((0 : Int), ())))), ()) with
  | none => none
  | some (.inl z1) =>
   bif (decide ((List.length z1.2.2.1 + List.length z1.1) * 40 ≤ roomMax)) then
    bif (decide ((List.length (z1.2.2.1 ++ z1.1) + List.length z1.2.1) * 40 ≤ roomMax)) then
     some (((z1.2.2.1 ++ z1.1) ++ z1.2.1), ())
    else
     none
   else
    none
  | some (.inr z1) =>
   none
 else
  none
def msg_clone_apply (s : (api_Msg) × (List (api_Pair)) × Unit) : Option ((List (api_Pair)) × Unit) :=
 match span_Prefix (s.1.2.2.2.2.2.1, ()) with
 | none => none
 | some r0 =>
  match table_Drop (s.2.1, r0.1, ()) with
  | none => none
  | some r1 =>
   match msg_moved (s.2.1, s.1.2.2.2.2.1, s.1.2.2.2.2.2.1, ()) with
   | none => none
   | some r2 =>
    match table_Union (r1.1, r2.1, ()) with
    | none => none
    | some r3 =>
     some (r3.1, ())
def msg_move_apply (s : (api_Msg) × (List (api_Pair)) × Unit) : Option ((List (api_Pair)) × Unit) :=
 match msg_clone_apply (s.1, s.2.1, ()) with
 | none => none
 | some r0 =>
  match span_Prefix (s.1.2.2.2.2.1, ()) with
  | none => none
  | some r1 =>
   match table_Drop (r0.1, r1.1, ()) with
   | none => none
   | some r2 =>
    some (r2.1, ())
def span_Has (s : (api_Span) × (List UInt8) × Unit) : Option ((Bool) × Unit) :=
 bif (!(Op.bytesLess s.2.1 s.1.1)) then
  let t0 : Bool := (decide ((s.1.2.1 : List UInt8) = ([] : List UInt8)))
  bif (!t0) then
   some ((Op.bytesLess s.2.1 s.1.2.1), ())
  else
   some (true, ())
 else
  some (false, ())
def msg_stamp_apply_b0 (s : (Int) × (Int) × (api_Msg) × (List (api_Pair)) × Unit) : Option (((Int) × (Int) × (api_Msg) × (List (api_Pair)) × Unit) ⊕ (((List (api_Pair)) × Unit) ⊕ (Unit))) :=
 bif (decide ((s.2.1 : Int) < s.1)) then
  bif (decide ((0 : Int) ≤ s.2.1) && decide ((s.2.1 : Int) < (List.length s.2.2.2.1 : Int))) then
   let t0 : api_Pair := (List.getD s.2.2.2.1 (Int.toNat s.2.1) (([] : List UInt8), (([] : List UInt8), ((0 : Int), ()))))
   match span_Has (s.2.2.1.2.2.2.1, t0.1, ()) with
   | none => none
   | some r1 =>
    bif r1.1 then
     bif (decide ((0 : Int) ≤ s.2.1) && decide ((s.2.1 : Int) < (List.length s.2.2.2.1 : Int))) then
      let t2 : List (api_Pair) := (List.set s.2.2.2.1 (Int.toNat s.2.1) ((List.getD s.2.2.2.1 (Int.toNat s.2.1) (([] : List UInt8), (([] : List UInt8), ((0 : Int), ())))).1, ((List.getD s.2.2.2.1 (Int.toNat s.2.1) (([] : List UInt8), (([] : List UInt8), ((0 : Int), ())))).2.1, (s.2.2.1.2.2.2.2.2.2.1, (List.getD s.2.2.2.1 (Int.toNat s.2.1) (([] : List UInt8), (([] : List UInt8), ((0 : Int), ())))).2.2.2))))
      some (.inl (s.1, (IntKind.i64.wrap (s.2.1 + (1 : Int))), s.2.2.1, t2, ()))
     else
      none
    else
     some (.inl (s.1, (IntKind.i64.wrap (s.2.1 + (1 : Int))), s.2.2.1, s.2.2.2.1, ()))
  else
   none
 else
  some (.inr (.inl (s.2.2.2.1, ())))
def msg_stamp_apply_l0 (s : (Int) × (Int) × (api_Msg) × (List (api_Pair)) × Unit) : Option (((List (api_Pair)) × Unit) ⊕ (Unit)) := loopO (msg_stamp_apply_b0) s
def msg_stamp_apply (s : (api_Msg) × (List (api_Pair)) × Unit) : Option ((List (api_Pair)) × Unit) :=
 match slices_Clone_api_Pair_api_Pair (s.2.1, ()) with
 | none => none
 | some r0 =>
  match msg_stamp_apply_l0 (((List.length r0.1) : Int), (0 : Int), s.1, r0.1, ()) with
  | none => none
  | some (.inl z1) =>
   some (z1.1, ())
  | some (.inr z1) =>
   none
def msg_Apply (s : (List (api_Pair)) × (api_Msg) × Unit) : Option ((List (api_Pair)) × Unit) :=
 bif (decide ((s.2.1.1 : Int) = (1 : Int))) then
  match msg_put_apply (s.2.1, s.1, ()) with
  | none => none
  | some r0 =>
   some (r0.1, ())
 else
  bif (decide ((s.2.1.1 : Int) = (2 : Int))) then
   match msg_del_apply (s.2.1, s.1, ()) with
   | none => none
   | some r0 =>
    some (r0.1, ())
  else
   bif (decide ((s.2.1.1 : Int) = (3 : Int))) then
    match msg_drop_apply (s.2.1, s.1, ()) with
    | none => none
    | some r0 =>
     some (r0.1, ())
   else
    bif (decide ((s.2.1.1 : Int) = (4 : Int))) then
     match msg_move_apply (s.2.1, s.1, ()) with
     | none => none
     | some r0 =>
      some (r0.1, ())
    else
     bif (decide ((s.2.1.1 : Int) = (5 : Int))) then
      match msg_clone_apply (s.2.1, s.1, ()) with
      | none => none
      | some r0 =>
       some (r0.1, ())
     else
      bif (decide ((s.2.1.1 : Int) = (6 : Int))) then
       match msg_stamp_apply (s.2.1, s.1, ()) with
       | none => none
       | some r0 =>
        some (r0.1, ())
      else
       some (s.1, ())
def msg_All_b0 (s : (List (api_Pair)) × (List (api_Msg)) × (Int) × (Int) × Unit) : Option (((List (api_Pair)) × (List (api_Msg)) × (Int) × (Int) × Unit) ⊕ (((List (api_Pair)) × Unit) ⊕ (Unit))) :=
 bif (decide ((s.2.2.2.1 : Int) < s.2.2.1)) then
  bif (decide ((0 : Int) ≤ s.2.2.2.1) && decide ((s.2.2.2.1 : Int) < (List.length s.2.1 : Int))) then
   let t0 : api_Msg := (List.getD s.2.1 (Int.toNat s.2.2.2.1) ((0 : Int), (([] : List UInt8), (([] : List UInt8), ((([] : List UInt8), (([] : List UInt8), ())), (([] : List UInt8), (([] : List UInt8), ((0 : Int), ()))))))))
   match msg_Apply (s.1, t0, ()) with
   | none => none
   | some r1 =>
    let t2 : Int := (IntKind.i64.wrap (s.2.2.2.1 + (1 : Int)))
    some (.inl (r1.1, s.2.1, s.2.2.1, t2, ()))
  else
   none
 else
  some (.inr (.inl (s.1, ())))
def msg_All_l0 (s : (List (api_Pair)) × (List (api_Msg)) × (Int) × (Int) × Unit) : Option (((List (api_Pair)) × Unit) ⊕ (Unit)) := loopO (msg_All_b0) s
def msg_All (s : (List (api_Pair)) × (List (api_Msg)) × Unit) : Option ((List (api_Pair)) × Unit) :=
 match msg_All_l0 (s.1, s.2.1, ((List.length s.2.1) : Int), (0 : Int), ()) with
 | none => none
 | some (.inl z0) =>
  some (z0.1, ())
 | some (.inr z0) =>
  none
def quota_Allows (s : (List (api_Pair)) × (List (api_Quota)) × (List (api_Msg)) × Unit) : Option ((Bool) × Unit) :=
 match msg_All (s.1, s.2.2.1, ()) with
 | none => none
 | some r0 =>
  match quota_Fits (r0.1, s.2.1, ()) with
  | none => none
  | some r1 =>
   some (r1.1, ())
def strings_HasPrefix (s : api_Span) : Option ((Bool) × Unit) :=
 match internal_stringslite_HasPrefix (s.1, s.2.1, ()) with
 | none => none
 | some r0 =>
  some (r0.1, ())
def math_bits_Len64_j2 (s : api_Use) : Option ((Int) × Unit) :=
 bif (decide ((0 : Int) ≤ (IntKind.u8.wrap s.1)) && decide (((IntKind.u8.wrap s.1) : Int) < (List.length ([0, 1, 2, 2, 3, 3, 3, 3, 4, 4, 4, 4, 4, 4, 4, 4, 5, 5, 5, 5, 5, 5, 5, 5, 5, 5, 5, 5, 5, 5, 5, 5, 6, 6, 6, 6, 6, 6, 6, 6, 6, 6, 6, 6, 6, 6, 6, 6, 6, 6, 6, 6, 6, 6, 6, 6, 6, 6, 6, 6, 6, 6, 6, 6, 7, 7, 7, 7, 7, 7, 7, 7, 7, 7, 7, 7, 7, 7, 7, 7, 7, 7, 7, 7, 7, 7, 7, 7, 7, 7, 7, 7, 7, 7, 7, 7, 7, 7, 7, 7, 7, 7, 7, 7, 7, 7, 7, 7, 7, 7, 7, 7, 7, 7, 7, 7, 7, 7, 7, 7, 7, 7, 7, 7, 7, 7, 7, 7, 8, 8, 8, 8, 8, 8, 8, 8, 8, 8, 8, 8, 8, 8, 8, 8, 8, 8, 8, 8, 8, 8, 8, 8, 8, 8, 8, 8, 8, 8, 8, 8, 8, 8, 8, 8, 8, 8, 8, 8, 8, 8, 8, 8, 8, 8, 8, 8, 8, 8, 8, 8, 8, 8, 8, 8, 8, 8, 8, 8, 8, 8, 8, 8, 8, 8, 8, 8, 8, 8, 8, 8, 8, 8, 8, 8, 8, 8, 8, 8, 8, 8, 8, 8, 8, 8, 8, 8, 8, 8, 8, 8, 8, 8, 8, 8, 8, 8, 8, 8, 8, 8, 8, 8, 8, 8, 8, 8, 8, 8, 8, 8, 8, 8, 8, 8, 8, 8, 8, 8, 8, 8, 8, 8, 8, 8, 8, 8] : List UInt8) : Int))) then
  let t0 : Int := ((List.getD ([0, 1, 2, 2, 3, 3, 3, 3, 4, 4, 4, 4, 4, 4, 4, 4, 5, 5, 5, 5, 5, 5, 5, 5, 5, 5, 5, 5, 5, 5, 5, 5, 6, 6, 6, 6, 6, 6, 6, 6, 6, 6, 6, 6, 6, 6, 6, 6, 6, 6, 6, 6, 6, 6, 6, 6, 6, 6, 6, 6, 6, 6, 6, 6, 7, 7, 7, 7, 7, 7, 7, 7, 7, 7, 7, 7, 7, 7, 7, 7, 7, 7, 7, 7, 7, 7, 7, 7, 7, 7, 7, 7, 7, 7, 7, 7, 7, 7, 7, 7, 7, 7, 7, 7, 7, 7, 7, 7, 7, 7, 7, 7, 7, 7, 7, 7, 7, 7, 7, 7, 7, 7, 7, 7, 7, 7, 7, 7, 8, 8, 8, 8, 8, 8, 8, 8, 8, 8, 8, 8, 8, 8, 8, 8, 8, 8, 8, 8, 8, 8, 8, 8, 8, 8, 8, 8, 8, 8, 8, 8, 8, 8, 8, 8, 8, 8, 8, 8, 8, 8, 8, 8, 8, 8, 8, 8, 8, 8, 8, 8, 8, 8, 8, 8, 8, 8, 8, 8, 8, 8, 8, 8, 8, 8, 8, 8, 8, 8, 8, 8, 8, 8, 8, 8, 8, 8, 8, 8, 8, 8, 8, 8, 8, 8, 8, 8, 8, 8, 8, 8, 8, 8, 8, 8, 8, 8, 8, 8, 8, 8, 8, 8, 8, 8, 8, 8, 8, 8, 8, 8, 8, 8, 8, 8, 8, 8, 8, 8, 8, 8, 8, 8, 8, 8, 8, 8] : List UInt8) (Int.toNat (IntKind.u8.wrap s.1)) 0).toNat : Int)
  let t1 : Int := (IntKind.i64.wrap (s.2.1 + (IntKind.i64.wrap t0)))
  some (t1, ())
 else
  none
def math_bits_Len64_j1 (s : api_Use) : Option ((Int) × Unit) :=
 bif (decide ((s.1 : Int) ≥ (256 : Int))) then
  let t0 : Int := (Int.fdiv s.1 (2 ^ (min (Int.toNat (8 : Int)) IntKind.u64.bits)))
  math_bits_Len64_j2 (t0, (IntKind.i64.wrap (s.2.1 + (8 : Int))), ())
 else
  math_bits_Len64_j2 (s.1, s.2.1, ())
def math_bits_Len64_j0 (s : api_Use) : Option ((Int) × Unit) :=
 bif (decide ((s.1 : Int) ≥ (65536 : Int))) then
  let t0 : Int := (Int.fdiv s.1 (2 ^ (min (Int.toNat (16 : Int)) IntKind.u64.bits)))
  math_bits_Len64_j1 (t0, (IntKind.i64.wrap (s.2.1 + (16 : Int))), ())
 else
  math_bits_Len64_j1 (s.1, s.2.1, ())

def math_bits_Len64 (s : (Int) × Unit) : Option ((Int) × Unit) :=
 let t0 : Bool := (decide ((s.1 : Int) ≥ (4294967296 : Int)))
 bif t0 then
  let t1 : Int := (Int.fdiv s.1 (2 ^ (min (Int.toNat (32 : Int)) IntKind.u64.bits)))
  math_bits_Len64_j0 (t1, (32 : Int), ())
 else
  math_bits_Len64_j0 (s.1, (0 : Int), ())
def math_bits_Len (s : (Int) × Unit) : Option ((Int) × Unit) :=
 match math_bits_Len64 (s.1, ()) with
 | none => none
 | some r0 =>
  some (r0.1, ())
def cmp_isNaN_string (s : (List UInt8) × Unit) : Option ((Bool) × Unit) :=
 some ((!decide ((s.1 : List UInt8) = s.1)), ())
def cmp_Compare_string (s : api_Span) : Option ((Int) × Unit) :=
 match cmp_isNaN_string (s.1, ()) with
 | none => none
 | some r0 =>
  match cmp_isNaN_string (s.2.1, ()) with
  | none => none
  | some r1 =>
   bif r0.1 then
    bif r1.1 then
     some ((0 : Int), ())
    else
     some ((-1 : Int), ())
   else
    bif r1.1 then
     some ((1 : Int), ())
    else
     bif (Op.bytesLess s.1 s.2.1) then
      some ((-1 : Int), ())
     else
      let t2 : Bool := (!(Op.bytesLess s.1 s.2.1 || decide ((s.1 : List UInt8) = s.2.1)))
      bif t2 then
       some ((1 : Int), ())
      else
       some ((0 : Int), ())
def quota_byPath (s : (api_Quota) × (api_Quota) × Unit) : Option ((Int) × Unit) :=
 match cmp_Compare_string (s.1.1, s.2.1.1, ()) with
 | none => none
 | some r0 =>
  some (r0.1, ())
def slices_insertionSortCmpFunc_api_Quota_b1_j0 (s : (Int) × (Int) × (Int) × (Int) × (Bool) × (List (api_Quota)) × Unit) : Option (((Int) × (Int) × (Int) × (Int) × (List (api_Quota)) × Unit) ⊕ (((Int) × (Int) × (Int) × (List (api_Quota)) × Unit) ⊕ (Unit))) :=
 bif s.2.2.2.2.1 then
  let t0 : Int := (IntKind.i64.wrap (s.2.2.2.1 - (1 : Int)))
  let t1 : Int := (IntKind.i64.wrap (s.2.2.2.1 - (1 : Int)))
  bif (decide ((0 : Int) ≤ t1) && decide ((t1 : Int) < (List.length s.2.2.2.2.2.1 : Int))) then
   let t2 : api_Quota := (List.getD s.2.2.2.2.2.1 (Int.toNat t1) (([] : List UInt8), (((0 : Int), ((0 : Int), ())), ())))
   bif (decide ((0 : Int) ≤ s.2.2.2.1) && decide ((s.2.2.2.1 : Int) < (List.length s.2.2.2.2.2.1 : Int))) then
    let t3 : api_Quota := (List.getD s.2.2.2.2.2.1 (Int.toNat s.2.2.2.1) (([] : List UInt8), (((0 : Int), ((0 : Int), ())), ())))
    bif (decide ((0 : Int) ≤ s.2.2.2.1) && decide ((s.2.2.2.1 : Int) < (List.length s.2.2.2.2.2.1 : Int))) then
     let t4 : List (api_Quota) := (List.set s.2.2.2.2.2.1 (Int.toNat s.2.2.2.1) t2)
     bif (decide ((0 : Int) ≤ t0) && decide ((t0 : Int) < (List.length t4 : Int))) then
      let t5 : Int := (IntKind.i64.wrap (s.2.2.2.1 - (1 : Int)))
      some (.inl (s.1, s.2.1, s.2.2.1, t5, (List.set t4 (Int.toNat t0) t3), ()))
     else
      none
    else
     none
   else
    none
  else
   none
 else
  some (.inr (.inl (s.1, s.2.1, s.2.2.1, s.2.2.2.2.2.1, ())))

def slices_insertionSortCmpFunc_api_Quota_b1 (s : (Int) × (Int) × (Int) × (Int) × (List (api_Quota)) × Unit) : Option (((Int) × (Int) × (Int) × (Int) × (List (api_Quota)) × Unit) ⊕ (((Int) × (Int) × (Int) × (List (api_Quota)) × Unit) ⊕ (Unit))) :=
 bif (decide ((s.2.2.2.1 : Int) > s.1)) then
  bif (decide ((0 : Int) ≤ s.2.2.2.1) && decide ((s.2.2.2.1 : Int) < (List.length s.2.2.2.2.1 : Int))) then
   let t0 : api_Quota := (List.getD s.2.2.2.2.1 (Int.toNat s.2.2.2.1) (([] : List UInt8), (((0 : Int), ((0 : Int), ())), ())))
   let t1 : Int := (IntKind.i64.wrap (s.2.2.2.1 - (1 : Int)))
   bif (decide ((0 : Int) ≤ t1) && decide ((t1 : Int) < (List.length s.2.2.2.2.1 : Int))) then
    let t2 : api_Quota := (List.getD s.2.2.2.2.1 (Int.toNat t1) (([] : List UInt8), (((0 : Int), ((0 : Int), ())), ())))
    match quota_byPath (t0, t2, ()) with
    | none => none
    | some r3 =>
     slices_insertionSortCmpFunc_api_Quota_b1_j0 (s.1, s.2.1, s.2.2.1, s.2.2.2.1, (decide ((r3.1 : Int) < (0 : Int))), s.2.2.2.2.1, ())
   else
    none
  else
   none
 else
  slices_insertionSortCmpFunc_api_Quota_b1_j0 (s.1, s.2.1, s.2.2.1, s.2.2.2.1, false, s.2.2.2.2.1, ())
def slices_insertionSortCmpFunc_api_Quota_l1 (s : (Int) × (Int) × (Int) × (Int) × (List (api_Quota)) × Unit) : Option (((Int) × (Int) × (Int) × (List (api_Quota)) × Unit) ⊕ (Unit)) := loopO (slices_insertionSortCmpFunc_api_Quota_b1) s
def slices_insertionSortCmpFunc_api_Quota_b0 (s : (Int) × (Int) × (Int) × (List (api_Quota)) × Unit) : Option (((Int) × (Int) × (Int) × (List (api_Quota)) × Unit) ⊕ (((List (api_Quota)) × Unit) ⊕ (Unit))) :=
 bif (decide ((s.2.2.1 : Int) < s.2.1)) then
  match slices_insertionSortCmpFunc_api_Quota_l1 (s.1, s.2.1, s.2.2.1, s.2.2.1, s.2.2.2.1, ()) with
  | none => none
  | some (.inl z0) =>
   let t1 : Int := (IntKind.i64.wrap (z0.2.2.1 + (1 : Int)))
   some (.inl (z0.1, z0.2.1, t1, z0.2.2.2.1, ()))
  | some (.inr z0) =>
   none
 else
  some (.inr (.inl (s.2.2.2.1, ())))
def slices_insertionSortCmpFunc_api_Quota_l0 (s : (Int) × (Int) × (Int) × (List (api_Quota)) × Unit) : Option (((List (api_Quota)) × Unit) ⊕ (Unit)) := loopO (slices_insertionSortCmpFunc_api_Quota_b0) s
def slices_insertionSortCmpFunc_api_Quota (s : (Int) × (Int) × (List (api_Quota)) × Unit) : Option ((List (api_Quota)) × Unit) :=
 match slices_insertionSortCmpFunc_api_Quota_l0 (s.1, s.2.1, (IntKind.i64.wrap (s.1 + (1 : Int))), s.2.2.1, ()) with
 | none => none
 | some (.inl z0) =>
  some (z0.1, ())
 | some (.inr z0) =>
  none
def slices_siftDownCmpFunc_api_Quota_b0_j0 (s : (Int) × (Int) × (Int) × (Int) × (List (api_Quota)) × Unit) : Option (((Int) × (Int) × (Int) × (List (api_Quota)) × Unit) ⊕ (((List (api_Quota)) × Unit) ⊕ ((List (api_Quota)) × Unit))) :=
 bif (decide ((0 : Int) ≤ (IntKind.i64.wrap (s.2.1 + s.2.2.1))) && decide (((IntKind.i64.wrap (s.2.1 + s.2.2.1)) : Int) < (List.length s.2.2.2.2.1 : Int))) then
  let t0 : api_Quota := (List.getD s.2.2.2.2.1 (Int.toNat (IntKind.i64.wrap (s.2.1 + s.2.2.1))) (([] : List UInt8), (((0 : Int), ((0 : Int), ())), ())))
  bif (decide ((0 : Int) ≤ (IntKind.i64.wrap (s.2.1 + s.2.2.2.1))) && decide (((IntKind.i64.wrap (s.2.1 + s.2.2.2.1)) : Int) < (List.length s.2.2.2.2.1 : Int))) then
   let t1 : api_Quota := (List.getD s.2.2.2.2.1 (Int.toNat (IntKind.i64.wrap (s.2.1 + s.2.2.2.1))) (([] : List UInt8), (((0 : Int), ((0 : Int), ())), ())))
   match quota_byPath (t0, t1, ()) with
   | none => none
   | some r2 =>
    bif (!(decide ((r2.1 : Int) < (0 : Int)))) then
     some (.inr (.inr (s.2.2.2.2.1, ())))
    else
     bif (decide ((0 : Int) ≤ (IntKind.i64.wrap (s.2.1 + s.2.2.2.1))) && decide (((IntKind.i64.wrap (s.2.1 + s.2.2.2.1)) : Int) < (List.length s.2.2.2.2.1 : Int))) then
      let t3 : api_Quota := (List.getD s.2.2.2.2.1 (Int.toNat (IntKind.i64.wrap (s.2.1 + s.2.2.2.1))) (([] : List UInt8), (((0 : Int), ((0 : Int), ())), ())))
      bif (decide ((0 : Int) ≤ (IntKind.i64.wrap (s.2.1 + s.2.2.1))) && decide (((IntKind.i64.wrap (s.2.1 + s.2.2.1)) : Int) < (List.length s.2.2.2.2.1 : Int))) then
       let t4 : api_Quota := (List.getD s.2.2.2.2.1 (Int.toNat (IntKind.i64.wrap (s.2.1 + s.2.2.1))) (([] : List UInt8), (((0 : Int), ((0 : Int), ())), ())))
       bif (decide ((0 : Int) ≤ (IntKind.i64.wrap (s.2.1 + s.2.2.1))) && decide (((IntKind.i64.wrap (s.2.1 + s.2.2.1)) : Int) < (List.length s.2.2.2.2.1 : Int))) then
        let t5 : List (api_Quota) := (List.set s.2.2.2.2.1 (Int.toNat (IntKind.i64.wrap (s.2.1 + s.2.2.1))) t3)
        bif (decide ((0 : Int) ≤ (IntKind.i64.wrap (s.2.1 + s.2.2.2.1))) && decide (((IntKind.i64.wrap (s.2.1 + s.2.2.2.1)) : Int) < (List.length t5 : Int))) then
         let t6 : List (api_Quota) := (List.set t5 (Int.toNat (IntKind.i64.wrap (s.2.1 + s.2.2.2.1))) t4)
         some (.inl (s.1, s.2.1, s.2.2.2.1, t6, ()))
        else
         none
       else
        none
      else
       none
     else
      none
  else
   none
 else
  none
def slices_siftDownCmpFunc_api_Quota_b0_j1 (s : (Int) × (Int) × (Int) × (Int) × (Bool) × (List (api_Quota)) × Unit) : Option (((Int) × (Int) × (Int) × (List (api_Quota)) × Unit) ⊕ (((List (api_Quota)) × Unit) ⊕ ((List (api_Quota)) × Unit))) :=
 bif s.2.2.2.2.1 then
  let t0 : Int := (IntKind.i64.wrap (s.2.2.2.1 + (1 : Int)))
  slices_siftDownCmpFunc_api_Quota_b0_j0 (s.1, s.2.1, s.2.2.1, t0, s.2.2.2.2.2.1, ())
 else
  slices_siftDownCmpFunc_api_Quota_b0_j0 (s.1, s.2.1, s.2.2.1, s.2.2.2.1, s.2.2.2.2.2.1, ())

def slices_siftDownCmpFunc_api_Quota_b0 (s : (Int) × (Int) × (Int) × (List (api_Quota)) × Unit) : Option (((Int) × (Int) × (Int) × (List (api_Quota)) × Unit) ⊕ (((List (api_Quota)) × Unit) ⊕ ((List (api_Quota)) × Unit))) :=
 let t0 : Int := (IntKind.i64.wrap ((IntKind.i64.wrap ((2 : Int) * s.2.2.1)) + (1 : Int)))
 bif (decide ((t0 : Int) ≥ s.1)) then
  some (.inr (.inl (s.2.2.2.1, ())))
 else
  let t1 : Bool := (decide (((IntKind.i64.wrap (t0 + (1 : Int))) : Int) < s.1))
  bif t1 then
   bif (decide ((0 : Int) ≤ (IntKind.i64.wrap (s.2.1 + t0))) && decide (((IntKind.i64.wrap (s.2.1 + t0)) : Int) < (List.length s.2.2.2.1 : Int))) then
    let t2 : api_Quota := (List.getD s.2.2.2.1 (Int.toNat (IntKind.i64.wrap (s.2.1 + t0))) (([] : List UInt8), (((0 : Int), ((0 : Int), ())), ())))
    let t3 : Int := (IntKind.i64.wrap ((IntKind.i64.wrap (s.2.1 + t0)) + (1 : Int)))
    bif (decide ((0 : Int) ≤ t3) && decide ((t3 : Int) < (List.length s.2.2.2.1 : Int))) then
     let t4 : api_Quota := (List.getD s.2.2.2.1 (Int.toNat t3) (([] : List UInt8), (((0 : Int), ((0 : Int), ())), ())))
     match quota_byPath (t2, t4, ()) with
     | none => none
     | some r5 =>
      slices_siftDownCmpFunc_api_Quota_b0_j1 (s.1, s.2.1, s.2.2.1, t0, (decide ((r5.1 : Int) < (0 : Int))), s.2.2.2.1, ())
    else
     none
   else
    none
  else
   slices_siftDownCmpFunc_api_Quota_b0_j1 (s.1, s.2.1, s.2.2.1, t0, false, s.2.2.2.1, ())
def slices_siftDownCmpFunc_api_Quota_l0 (s : (Int) × (Int) × (Int) × (List (api_Quota)) × Unit) : Option (((List (api_Quota)) × Unit) ⊕ ((List (api_Quota)) × Unit)) := loopO (slices_siftDownCmpFunc_api_Quota_b0) s
def slices_siftDownCmpFunc_api_Quota (s : (Int) × (Int) × (Int) × (List (api_Quota)) × Unit) : Option ((List (api_Quota)) × Unit) :=
 match slices_siftDownCmpFunc_api_Quota_l0 (s.2.1, s.2.2.1, s.1, s.2.2.2.1, ()) with
 | none => none
 | some (.inl z0) =>
  some (z0.1, ())
 | some (.inr z0) =>
  some (z0.1, ())
def slices_heapSortCmpFunc_api_Quota_b0 (s : (Int) × (Int) × (Int) × (Int) × (List (api_Quota)) × Unit) : Option (((Int) × (Int) × (Int) × (Int) × (List (api_Quota)) × Unit) ⊕ (((Int) × (Int) × (Int) × (List (api_Quota)) × Unit) ⊕ (Unit))) :=
 bif (decide ((s.2.2.2.1 : Int) ≥ (0 : Int))) then
  match slices_siftDownCmpFunc_api_Quota (s.2.2.2.1, s.2.2.1, s.1, s.2.2.2.2.1, ()) with
  | none => none
  | some r0 =>
   let t1 : Int := (IntKind.i64.wrap (s.2.2.2.1 - (1 : Int)))
   some (.inl (s.1, s.2.1, s.2.2.1, t1, r0.1, ()))
 else
  some (.inr (.inl (s.1, s.2.1, s.2.2.1, s.2.2.2.2.1, ())))
def slices_heapSortCmpFunc_api_Quota_l0 (s : (Int) × (Int) × (Int) × (Int) × (List (api_Quota)) × Unit) : Option (((Int) × (Int) × (Int) × (List (api_Quota)) × Unit) ⊕ (Unit)) := loopO (slices_heapSortCmpFunc_api_Quota_b0) s
def slices_heapSortCmpFunc_api_Quota_b1 (s : (Int) × (Int) × (Int) × (List (api_Quota)) × Unit) : Option (((Int) × (Int) × (Int) × (List (api_Quota)) × Unit) ⊕ (((List (api_Quota)) × Unit) ⊕ (Unit))) :=
 bif (decide ((s.2.2.1 : Int) ≥ (0 : Int))) then
  bif (decide ((0 : Int) ≤ (IntKind.i64.wrap (s.1 + s.2.2.1))) && decide (((IntKind.i64.wrap (s.1 + s.2.2.1)) : Int) < (List.length s.2.2.2.1 : Int))) then
   let t0 : api_Quota := (List.getD s.2.2.2.1 (Int.toNat (IntKind.i64.wrap (s.1 + s.2.2.1))) (([] : List UInt8), (((0 : Int), ((0 : Int), ())), ())))
   bif (decide ((0 : Int) ≤ s.1) && decide ((s.1 : Int) < (List.length s.2.2.2.1 : Int))) then
    let t1 : api_Quota := (List.getD s.2.2.2.1 (Int.toNat s.1) (([] : List UInt8), (((0 : Int), ((0 : Int), ())), ())))
    bif (decide ((0 : Int) ≤ s.1) && decide ((s.1 : Int) < (List.length s.2.2.2.1 : Int))) then
     bif (decide ((0 : Int) ≤ (IntKind.i64.wrap (s.1 + s.2.2.1))) && decide (((IntKind.i64.wrap (s.1 + s.2.2.1)) : Int) < (List.length (List.set s.2.2.2.1 (Int.toNat s.1) t0) : Int))) then
      let t2 : List (api_Quota) := (List.set (List.set s.2.2.2.1 (Int.toNat s.1) t0) (Int.toNat (IntKind.i64.wrap (s.1 + s.2.2.1))) t1)
      match slices_siftDownCmpFunc_api_Quota (s.2.1, s.2.2.1, s.1, t2, ()) with
      | none => none
      | some r3 =>
       some (.inl (s.1, s.2.1, (IntKind.i64.wrap (s.2.2.1 - (1 : Int))), r3.1, ()))
     else
      none
    else
     none
   else
    none
  else
   none
 else
  some (.inr (.inl (s.2.2.2.1, ())))
def slices_heapSortCmpFunc_api_Quota_l1 (s : (Int) × (Int) × (Int) × (List (api_Quota)) × Unit) : Option (((List (api_Quota)) × Unit) ⊕ (Unit)) := loopO (slices_heapSortCmpFunc_api_Quota_b1) s
def slices_heapSortCmpFunc_api_Quota (s : (Int) × (Int) × (List (api_Quota)) × Unit) : Option ((List (api_Quota)) × Unit) :=
 let t0 : Int := (IntKind.i64.wrap ((IntKind.i64.wrap (s.2.1 - s.1)) - (1 : Int)))
 let t1 : Int := (IntKind.i64.wrap (Int.tdiv t0 (2 : Int)))
 match slices_heapSortCmpFunc_api_Quota_l0 (s.1, (0 : Int), (IntKind.i64.wrap (s.2.1 - s.1)), t1, s.2.2.1, ()) with
 | none => none
 | some (.inl z2) =>
  let t3 : Int := (IntKind.i64.wrap (z2.2.2.1 - (1 : Int)))
  match slices_heapSortCmpFunc_api_Quota_l1 (z2.1, z2.2.1, t3, z2.2.2.2.1, ()) with
  | none => none
  | some (.inl z4) =>
   some (z4.1, ())
  | some (.inr z4) =>
   none
 | some (.inr z2) =>
  none
def slices_order2CmpFunc_api_Quota (s : (Int) × (Int) × (List (api_Quota)) × (Int) × Unit) : Option ((Int) × (Int) × (List (api_Quota)) × (Int) × Unit) :=
 bif (decide ((0 : Int) ≤ s.2.1) && decide ((s.2.1 : Int) < (List.length s.2.2.1 : Int))) then
  let t0 : api_Quota := (List.getD s.2.2.1 (Int.toNat s.2.1) (([] : List UInt8), (((0 : Int), ((0 : Int), ())), ())))
  bif (decide ((0 : Int) ≤ s.1) && decide ((s.1 : Int) < (List.length s.2.2.1 : Int))) then
   let t1 : api_Quota := (List.getD s.2.2.1 (Int.toNat s.1) (([] : List UInt8), (((0 : Int), ((0 : Int), ())), ())))
   match quota_byPath (t0, t1, ()) with
   | none => none
   | some r2 =>
    bif (decide ((r2.1 : Int) < (0 : Int))) then
     let t3 : Int := (IntKind.i64.wrap (s.2.2.2.1 + (1 : Int)))
     some (s.2.1, s.1, s.2.2.1, t3, ())
    else
     some (s.1, s.2.1, s.2.2.1, s.2.2.2.1, ())
  else
   none
 else
  none
def slices_medianCmpFunc_api_Quota (s : (Int) × (Int) × (Int) × (List (api_Quota)) × (Int) × Unit) : Option ((Int) × (List (api_Quota)) × (Int) × Unit) :=
 match slices_order2CmpFunc_api_Quota (s.1, s.2.1, s.2.2.2.1, s.2.2.2.2.1, ()) with
 | none => none
 | some r0 =>
  match slices_order2CmpFunc_api_Quota (r0.2.1, s.2.2.1, r0.2.2.1, r0.2.2.2.1, ()) with
  | none => none
  | some r1 =>
   match slices_order2CmpFunc_api_Quota (r0.1, r1.1, r1.2.2.1, r1.2.2.2.1, ()) with
   | none => none
   | some r2 =>
    some (r2.2.1, r2.2.2.1, r2.2.2.2.1, ())
def slices_medianAdjacentCmpFunc_api_Quota (s : (Int) × (List (api_Quota)) × (Int) × Unit) : Option ((Int) × (List (api_Quota)) × (Int) × Unit) :=
 match slices_medianCmpFunc_api_Quota ((IntKind.i64.wrap (s.1 - (1 : Int))), s.1, (IntKind.i64.wrap (s.1 + (1 : Int))), s.2.1, s.2.2.1, ()) with
 | none => none
 | some r0 =>
  some (r0.1, r0.2.1, r0.2.2.1, ())
def slices_choosePivotCmpFunc_api_Quota_j0 (s : (Int) × (Int) × (Int) × (List (api_Quota)) × (Int) × Unit) : Option ((Int) × (Int) × (List (api_Quota)) × Unit) :=
 match slices_medianCmpFunc_api_Quota (s.1, s.2.1, s.2.2.1, s.2.2.2.1, s.2.2.2.2.1, ()) with
 | none => none
 | some r0 =>
  bif (decide ((r0.2.2.1 : Int) = (0 : Int))) then
   some (r0.1, (1 : Int), r0.2.1, ())
  else
   bif (decide ((r0.2.2.1 : Int) = (12 : Int))) then
    some (r0.1, (2 : Int), r0.2.1, ())
   else
    some (r0.1, (0 : Int), r0.2.1, ())

def slices_choosePivotCmpFunc_api_Quota (s : (Int) × (Int) × (List (api_Quota)) × Unit) : Option ((Int) × (Int) × (List (api_Quota)) × Unit) :=
 let t0 : Int := (IntKind.i64.wrap (Int.tdiv (IntKind.i64.wrap (s.2.1 - s.1)) (4 : Int)))
 let t1 : Int := (IntKind.i64.wrap (s.1 + (IntKind.i64.wrap (t0 * (1 : Int)))))
 let t2 : Int := (IntKind.i64.wrap (Int.tdiv (IntKind.i64.wrap (s.2.1 - s.1)) (4 : Int)))
 let t3 : Int := (IntKind.i64.wrap (s.1 + (IntKind.i64.wrap (t2 * (2 : Int)))))
 let t4 : Int := (IntKind.i64.wrap (Int.tdiv (IntKind.i64.wrap (s.2.1 - s.1)) (4 : Int)))
 let t5 : Int := (IntKind.i64.wrap (s.1 + (IntKind.i64.wrap (t4 * (3 : Int)))))
 let t6 : Bool := (decide (((IntKind.i64.wrap (s.2.1 - s.1)) : Int) ≥ (8 : Int)))
 bif t6 then
  let t7 : Bool := (decide (((IntKind.i64.wrap (s.2.1 - s.1)) : Int) ≥ (50 : Int)))
  bif t7 then
   match slices_medianAdjacentCmpFunc_api_Quota (t1, s.2.2.1, (0 : Int), ()) with
   | none => none
   | some r8 =>
    match slices_medianAdjacentCmpFunc_api_Quota (t3, r8.2.1, r8.2.2.1, ()) with
    | none => none
    | some r9 =>
     match slices_medianAdjacentCmpFunc_api_Quota (t5, r9.2.1, r9.2.2.1, ()) with
     | none => none
     | some r10 =>
      slices_choosePivotCmpFunc_api_Quota_j0 (r8.1, r9.1, r10.1, r10.2.1, r10.2.2.1, ())
  else
   slices_choosePivotCmpFunc_api_Quota_j0 (t1, t3, t5, s.2.2.1, (0 : Int), ())
 else
  bif (decide (((0 : Int) : Int) = (0 : Int))) then
   some (t3, (1 : Int), s.2.2.1, ())
  else
   let t7 : Bool := (decide (((0 : Int) : Int) = (12 : Int)))
   bif t7 then
    some (t3, (2 : Int), s.2.2.1, ())
   else
    some (t3, (0 : Int), s.2.2.1, ())
def slices_reverseRangeCmpFunc_api_Quota_b0 (s : (Int) × (Int) × (List (api_Quota)) × Unit) : Option (((Int) × (Int) × (List (api_Quota)) × Unit) ⊕ (((List (api_Quota)) × Unit) ⊕ (Unit))) :=
 bif (decide ((s.1 : Int) < s.2.1)) then
  bif (decide ((0 : Int) ≤ s.2.1) && decide ((s.2.1 : Int) < (List.length s.2.2.1 : Int))) then
   let t0 : api_Quota := (List.getD s.2.2.1 (Int.toNat s.2.1) (([] : List UInt8), (((0 : Int), ((0 : Int), ())), ())))
   bif (decide ((0 : Int) ≤ s.1) && decide ((s.1 : Int) < (List.length s.2.2.1 : Int))) then
    let t1 : api_Quota := (List.getD s.2.2.1 (Int.toNat s.1) (([] : List UInt8), (((0 : Int), ((0 : Int), ())), ())))
    bif (decide ((0 : Int) ≤ s.1) && decide ((s.1 : Int) < (List.length s.2.2.1 : Int))) then
     bif (decide ((0 : Int) ≤ s.2.1) && decide ((s.2.1 : Int) < (List.length (List.set s.2.2.1 (Int.toNat s.1) t0) : Int))) then
      let t2 : List (api_Quota) := (List.set (List.set s.2.2.1 (Int.toNat s.1) t0) (Int.toNat s.2.1) t1)
      some (.inl ((IntKind.i64.wrap (s.1 + (1 : Int))), (IntKind.i64.wrap (s.2.1 - (1 : Int))), t2, ()))
     else
      none
    else
     none
   else
    none
  else
   none
 else
  some (.inr (.inl (s.2.2.1, ())))
def slices_reverseRangeCmpFunc_api_Quota_l0 (s : (Int) × (Int) × (List (api_Quota)) × Unit) : Option (((List (api_Quota)) × Unit) ⊕ (Unit)) := loopO (slices_reverseRangeCmpFunc_api_Quota_b0) s
def slices_reverseRangeCmpFunc_api_Quota (s : (Int) × (Int) × (List (api_Quota)) × Unit) : Option ((List (api_Quota)) × Unit) :=
 match slices_reverseRangeCmpFunc_api_Quota_l0 (s.1, (IntKind.i64.wrap (s.2.1 - (1 : Int))), s.2.2.1, ()) with
 | none => none
 | some (.inl z0) =>
  some (z0.1, ())
 | some (.inr z0) =>
  none
def slices_partialInsertionSortCmpFunc_api_Quota_b1 (s : (Int) × (Int) × (Int) × (Int) × (List (api_Quota)) × Unit) : Option (((Int) × (Int) × (Int) × (Int) × (List (api_Quota)) × Unit) ⊕ (((Int) × (Int) × (Int) × (Int) × (List (api_Quota)) × Unit) ⊕ (Unit))) :=
 bif (decide ((s.2.2.1 : Int) < s.2.1)) then
  bif (decide ((0 : Int) ≤ s.2.2.1) && decide ((s.2.2.1 : Int) < (List.length s.2.2.2.2.1 : Int))) then
   let t0 : api_Quota := (List.getD s.2.2.2.2.1 (Int.toNat s.2.2.1) (([] : List UInt8), (((0 : Int), ((0 : Int), ())), ())))
   bif (decide ((0 : Int) ≤ (IntKind.i64.wrap (s.2.2.1 - (1 : Int)))) && decide (((IntKind.i64.wrap (s.2.2.1 - (1 : Int))) : Int) < (List.length s.2.2.2.2.1 : Int))) then
    let t1 : api_Quota := (List.getD s.2.2.2.2.1 (Int.toNat (IntKind.i64.wrap (s.2.2.1 - (1 : Int)))) (([] : List UInt8), (((0 : Int), ((0 : Int), ())), ())))
    match quota_byPath (t0, t1, ()) with
    | none => none
    | some r2 =>
     bif (!(decide ((r2.1 : Int) < (0 : Int)))) then
      some (.inl (s.1, s.2.1, (IntKind.i64.wrap (s.2.2.1 + (1 : Int))), s.2.2.2.1, s.2.2.2.2.1, ()))
     else
      some (.inr (.inl (s.1, s.2.1, s.2.2.1, s.2.2.2.1, s.2.2.2.2.1, ())))
   else
    none
  else
   none
 else
  some (.inr (.inl (s.1, s.2.1, s.2.2.1, s.2.2.2.1, s.2.2.2.2.1, ())))
def slices_partialInsertionSortCmpFunc_api_Quota_l1 (s : (Int) × (Int) × (Int) × (Int) × (List (api_Quota)) × Unit) : Option (((Int) × (Int) × (Int) × (Int) × (List (api_Quota)) × Unit) ⊕ (Unit)) := loopO (slices_partialInsertionSortCmpFunc_api_Quota_b1) s
def slices_partialInsertionSortCmpFunc_api_Quota_b2 (s : (Int) × (Int) × (Int) × (Int) × (Int) × (List (api_Quota)) × Unit) : Option (((Int) × (Int) × (Int) × (Int) × (Int) × (List (api_Quota)) × Unit) ⊕ (((Int) × (Int) × (Int) × (Int) × (List (api_Quota)) × Unit) ⊕ (Unit))) :=
 let t0 : Bool := (decide ((s.2.2.2.2.1 : Int) ≥ (1 : Int)))
 bif t0 then
  bif (decide ((0 : Int) ≤ s.2.2.2.2.1) && decide ((s.2.2.2.2.1 : Int) < (List.length s.2.2.2.2.2.1 : Int))) then
   let t1 : api_Quota := (List.getD s.2.2.2.2.2.1 (Int.toNat s.2.2.2.2.1) (([] : List UInt8), (((0 : Int), ((0 : Int), ())), ())))
   let t2 : Int := (IntKind.i64.wrap (s.2.2.2.2.1 - (1 : Int)))
   bif (decide ((0 : Int) ≤ t2) && decide ((t2 : Int) < (List.length s.2.2.2.2.2.1 : Int))) then
    let t3 : api_Quota := (List.getD s.2.2.2.2.2.1 (Int.toNat t2) (([] : List UInt8), (((0 : Int), ((0 : Int), ())), ())))
    match quota_byPath (t1, t3, ()) with
    | none => none
    | some r4 =>
     bif (!(decide ((r4.1 : Int) < (0 : Int)))) then
      some (.inr (.inl (s.1, s.2.1, s.2.2.1, s.2.2.2.1, s.2.2.2.2.2.1, ())))
     else
      let t5 : Int := (IntKind.i64.wrap (s.2.2.2.2.1 - (1 : Int)))
      let t6 : Int := (IntKind.i64.wrap (s.2.2.2.2.1 - (1 : Int)))
      bif (decide ((0 : Int) ≤ t6) && decide ((t6 : Int) < (List.length s.2.2.2.2.2.1 : Int))) then
       let t7 : api_Quota := (List.getD s.2.2.2.2.2.1 (Int.toNat t6) (([] : List UInt8), (((0 : Int), ((0 : Int), ())), ())))
       bif (decide ((0 : Int) ≤ s.2.2.2.2.1) && decide ((s.2.2.2.2.1 : Int) < (List.length s.2.2.2.2.2.1 : Int))) then
        let t8 : api_Quota := (List.getD s.2.2.2.2.2.1 (Int.toNat s.2.2.2.2.1) (([] : List UInt8), (((0 : Int), ((0 : Int), ())), ())))
        bif (decide ((0 : Int) ≤ s.2.2.2.2.1) && decide ((s.2.2.2.2.1 : Int) < (List.length s.2.2.2.2.2.1 : Int))) then
         let t9 : List (api_Quota) := (List.set s.2.2.2.2.2.1 (Int.toNat s.2.2.2.2.1) t7)
         bif (decide ((0 : Int) ≤ t5) && decide ((t5 : Int) < (List.length t9 : Int))) then
          let t10 : Int := (IntKind.i64.wrap (s.2.2.2.2.1 - (1 : Int)))
          some (.inl (s.1, s.2.1, s.2.2.1, s.2.2.2.1, t10, (List.set t9 (Int.toNat t5) t8), ()))
         else
          none
        else
         none
       else
        none
      else
       none
   else
    none
  else
   none
 else
  some (.inr (.inl (s.1, s.2.1, s.2.2.1, s.2.2.2.1, s.2.2.2.2.2.1, ())))
def slices_partialInsertionSortCmpFunc_api_Quota_l2 (s : (Int) × (Int) × (Int) × (Int) × (Int) × (List (api_Quota)) × Unit) : Option (((Int) × (Int) × (Int) × (Int) × (List (api_Quota)) × Unit) ⊕ (Unit)) := loopO (slices_partialInsertionSortCmpFunc_api_Quota_b2) s
def slices_partialInsertionSortCmpFunc_api_Quota_b3 (s : (Int) × (Int) × (Int) × (Int) × (Int) × (List (api_Quota)) × Unit) : Option (((Int) × (Int) × (Int) × (Int) × (Int) × (List (api_Quota)) × Unit) ⊕ (((Int) × (Int) × (Int) × (Int) × (List (api_Quota)) × Unit) ⊕ (Unit))) :=
 bif (decide ((s.2.2.2.2.1 : Int) < s.2.1)) then
  bif (decide ((0 : Int) ≤ s.2.2.2.2.1) && decide ((s.2.2.2.2.1 : Int) < (List.length s.2.2.2.2.2.1 : Int))) then
   let t0 : api_Quota := (List.getD s.2.2.2.2.2.1 (Int.toNat s.2.2.2.2.1) (([] : List UInt8), (((0 : Int), ((0 : Int), ())), ())))
   let t1 : Int := (IntKind.i64.wrap (s.2.2.2.2.1 - (1 : Int)))
   bif (decide ((0 : Int) ≤ t1) && decide ((t1 : Int) < (List.length s.2.2.2.2.2.1 : Int))) then
    let t2 : api_Quota := (List.getD s.2.2.2.2.2.1 (Int.toNat t1) (([] : List UInt8), (((0 : Int), ((0 : Int), ())), ())))
    match quota_byPath (t0, t2, ()) with
    | none => none
    | some r3 =>
     bif (!(decide ((r3.1 : Int) < (0 : Int)))) then
      some (.inr (.inl (s.1, s.2.1, s.2.2.1, s.2.2.2.1, s.2.2.2.2.2.1, ())))
     else
      let t4 : Int := (IntKind.i64.wrap (s.2.2.2.2.1 - (1 : Int)))
      let t5 : Int := (IntKind.i64.wrap (s.2.2.2.2.1 - (1 : Int)))
      bif (decide ((0 : Int) ≤ t5) && decide ((t5 : Int) < (List.length s.2.2.2.2.2.1 : Int))) then
       let t6 : api_Quota := (List.getD s.2.2.2.2.2.1 (Int.toNat t5) (([] : List UInt8), (((0 : Int), ((0 : Int), ())), ())))
       bif (decide ((0 : Int) ≤ s.2.2.2.2.1) && decide ((s.2.2.2.2.1 : Int) < (List.length s.2.2.2.2.2.1 : Int))) then
        let t7 : api_Quota := (List.getD s.2.2.2.2.2.1 (Int.toNat s.2.2.2.2.1) (([] : List UInt8), (((0 : Int), ((0 : Int), ())), ())))
        bif (decide ((0 : Int) ≤ s.2.2.2.2.1) && decide ((s.2.2.2.2.1 : Int) < (List.length s.2.2.2.2.2.1 : Int))) then
         let t8 : List (api_Quota) := (List.set s.2.2.2.2.2.1 (Int.toNat s.2.2.2.2.1) t6)
         bif (decide ((0 : Int) ≤ t4) && decide ((t4 : Int) < (List.length t8 : Int))) then
          let t9 : Int := (IntKind.i64.wrap (s.2.2.2.2.1 + (1 : Int)))
          some (.inl (s.1, s.2.1, s.2.2.1, s.2.2.2.1, t9, (List.set t8 (Int.toNat t4) t7), ()))
         else
          none
        else
         none
       else
        none
      else
       none
   else
    none
  else
   none
 else
  some (.inr (.inl (s.1, s.2.1, s.2.2.1, s.2.2.2.1, s.2.2.2.2.2.1, ())))
def slices_partialInsertionSortCmpFunc_api_Quota_l3 (s : (Int) × (Int) × (Int) × (Int) × (Int) × (List (api_Quota)) × Unit) : Option (((Int) × (Int) × (Int) × (Int) × (List (api_Quota)) × Unit) ⊕ (Unit)) := loopO (slices_partialInsertionSortCmpFunc_api_Quota_b3) s
def slices_partialInsertionSortCmpFunc_api_Quota_b0_j0 (s : (Int) × (Int) × (Int) × (Int) × (List (api_Quota)) × Unit) : Option (((Int) × (Int) × (Int) × (Int) × (List (api_Quota)) × Unit) ⊕ (((Bool) × (List (api_Quota)) × Unit) ⊕ ((List (api_Quota)) × Unit))) :=
 let t0 : Bool := (decide (((IntKind.i64.wrap (s.2.1 - s.2.2.1)) : Int) ≥ (2 : Int)))
 bif t0 then
  match slices_partialInsertionSortCmpFunc_api_Quota_l3 (s.1, s.2.1, s.2.2.1, s.2.2.2.1, (IntKind.i64.wrap (s.2.2.1 + (1 : Int))), s.2.2.2.2.1, ()) with
  | none => none
  | some (.inl z1) =>
   let t2 : Int := (IntKind.i64.wrap (z1.2.2.2.1 + (1 : Int)))
   some (.inl (z1.1, z1.2.1, z1.2.2.1, t2, z1.2.2.2.2.1, ()))
  | some (.inr z1) =>
   none
 else
  let t1 : Int := (IntKind.i64.wrap (s.2.2.2.1 + (1 : Int)))
  some (.inl (s.1, s.2.1, s.2.2.1, t1, s.2.2.2.2.1, ()))

def slices_partialInsertionSortCmpFunc_api_Quota_b0 (s : (Int) × (Int) × (Int) × (Int) × (List (api_Quota)) × Unit) : Option (((Int) × (Int) × (Int) × (Int) × (List (api_Quota)) × Unit) ⊕ (((Bool) × (List (api_Quota)) × Unit) ⊕ ((List (api_Quota)) × Unit))) :=
 bif (decide ((s.2.2.2.1 : Int) < (5 : Int))) then
  match slices_partialInsertionSortCmpFunc_api_Quota_l1 (s.1, s.2.1, s.2.2.1, s.2.2.2.1, s.2.2.2.2.1, ()) with
  | none => none
  | some (.inl z0) =>
   bif (decide ((z0.2.2.1 : Int) = z0.2.1)) then
    some (.inr (.inl (true, z0.2.2.2.2.1, ())))
   else
    let t1 : Bool := (decide (((IntKind.i64.wrap (z0.2.1 - z0.1)) : Int) < (50 : Int)))
    bif t1 then
     some (.inr (.inl (false, z0.2.2.2.2.1, ())))
    else
     let t2 : Int := (IntKind.i64.wrap (z0.2.2.1 - (1 : Int)))
     let t3 : Int := (IntKind.i64.wrap (z0.2.2.1 - (1 : Int)))
     bif (decide ((0 : Int) ≤ t3) && decide ((t3 : Int) < (List.length z0.2.2.2.2.1 : Int))) then
      let t4 : api_Quota := (List.getD z0.2.2.2.2.1 (Int.toNat t3) (([] : List UInt8), (((0 : Int), ((0 : Int), ())), ())))
      bif (decide ((0 : Int) ≤ z0.2.2.1) && decide ((z0.2.2.1 : Int) < (List.length z0.2.2.2.2.1 : Int))) then
       let t5 : api_Quota := (List.getD z0.2.2.2.2.1 (Int.toNat z0.2.2.1) (([] : List UInt8), (((0 : Int), ((0 : Int), ())), ())))
       bif (decide ((0 : Int) ≤ z0.2.2.1) && decide ((z0.2.2.1 : Int) < (List.length z0.2.2.2.2.1 : Int))) then
        let t6 : List (api_Quota) := (List.set z0.2.2.2.2.1 (Int.toNat z0.2.2.1) t4)
        bif (decide ((0 : Int) ≤ t2) && decide ((t2 : Int) < (List.length t6 : Int))) then
         let t7 : Bool := (decide (((IntKind.i64.wrap (z0.2.2.1 - z0.1)) : Int) ≥ (2 : Int)))
         bif t7 then
          let t8 : Int := (IntKind.i64.wrap (z0.2.2.1 - (1 : Int)))
          match slices_partialInsertionSortCmpFunc_api_Quota_l2 (z0.1, z0.2.1, z0.2.2.1, z0.2.2.2.1, t8, (List.set t6 (Int.toNat t2) t5), ()) with
          | none => none
          | some (.inl z9) =>
           slices_partialInsertionSortCmpFunc_api_Quota_b0_j0 (z9.1, z9.2.1, z9.2.2.1, z9.2.2.2.1, z9.2.2.2.2.1, ())
          | some (.inr z9) =>
           none
         else
          slices_partialInsertionSortCmpFunc_api_Quota_b0_j0 (z0.1, z0.2.1, z0.2.2.1, z0.2.2.2.1, (List.set t6 (Int.toNat t2) t5), ())
        else
         none
       else
        none
      else
       none
     else
      none
  | some (.inr z0) =>
   none
 else
  some (.inr (.inr (s.2.2.2.2.1, ())))
def slices_partialInsertionSortCmpFunc_api_Quota_l0 (s : (Int) × (Int) × (Int) × (Int) × (List (api_Quota)) × Unit) : Option (((Bool) × (List (api_Quota)) × Unit) ⊕ ((List (api_Quota)) × Unit)) := loopO (slices_partialInsertionSortCmpFunc_api_Quota_b0) s
def slices_partialInsertionSortCmpFunc_api_Quota (s : (Int) × (Int) × (List (api_Quota)) × Unit) : Option ((Bool) × (List (api_Quota)) × Unit) :=
 match slices_partialInsertionSortCmpFunc_api_Quota_l0 (s.1, s.2.1, (IntKind.i64.wrap (s.1 + (1 : Int))), (0 : Int), s.2.2.1, ()) with
 | none => none
 | some (.inl z0) =>
  some (z0.1, z0.2.1, ())
 | some (.inr z0) =>
  some (false, z0.1, ())
def slices_partitionEqualCmpFunc_api_Quota_b1 (s : (Int) × (Int) × (Int) × (List (api_Quota)) × Unit) : Option (((Int) × (Int) × (Int) × (List (api_Quota)) × Unit) ⊕ (((Int) × (Int) × (Int) × (List (api_Quota)) × Unit) ⊕ (Unit))) :=
 bif (decide ((s.2.1 : Int) ≤ s.2.2.1)) then
  bif (decide ((0 : Int) ≤ s.1) && decide ((s.1 : Int) < (List.length s.2.2.2.1 : Int))) then
   let t0 : api_Quota := (List.getD s.2.2.2.1 (Int.toNat s.1) (([] : List UInt8), (((0 : Int), ((0 : Int), ())), ())))
   bif (decide ((0 : Int) ≤ s.2.1) && decide ((s.2.1 : Int) < (List.length s.2.2.2.1 : Int))) then
    let t1 : api_Quota := (List.getD s.2.2.2.1 (Int.toNat s.2.1) (([] : List UInt8), (((0 : Int), ((0 : Int), ())), ())))
    match quota_byPath (t0, t1, ()) with
    | none => none
    | some r2 =>
     bif (!(decide ((r2.1 : Int) < (0 : Int)))) then
      some (.inl (s.1, (IntKind.i64.wrap (s.2.1 + (1 : Int))), s.2.2.1, s.2.2.2.1, ()))
     else
      some (.inr (.inl (s.1, s.2.1, s.2.2.1, s.2.2.2.1, ())))
   else
    none
  else
   none
 else
  some (.inr (.inl (s.1, s.2.1, s.2.2.1, s.2.2.2.1, ())))
def slices_partitionEqualCmpFunc_api_Quota_l1 (s : (Int) × (Int) × (Int) × (List (api_Quota)) × Unit) : Option (((Int) × (Int) × (Int) × (List (api_Quota)) × Unit) ⊕ (Unit)) := loopO (slices_partitionEqualCmpFunc_api_Quota_b1) s
def slices_partitionEqualCmpFunc_api_Quota_b2 (s : (Int) × (Int) × (Int) × (List (api_Quota)) × Unit) : Option (((Int) × (Int) × (Int) × (List (api_Quota)) × Unit) ⊕ (((Int) × (Int) × (Int) × (List (api_Quota)) × Unit) ⊕ (Unit))) :=
 bif (decide ((s.2.1 : Int) ≤ s.2.2.1)) then
  bif (decide ((0 : Int) ≤ s.1) && decide ((s.1 : Int) < (List.length s.2.2.2.1 : Int))) then
   let t0 : api_Quota := (List.getD s.2.2.2.1 (Int.toNat s.1) (([] : List UInt8), (((0 : Int), ((0 : Int), ())), ())))
   bif (decide ((0 : Int) ≤ s.2.2.1) && decide ((s.2.2.1 : Int) < (List.length s.2.2.2.1 : Int))) then
    let t1 : api_Quota := (List.getD s.2.2.2.1 (Int.toNat s.2.2.1) (([] : List UInt8), (((0 : Int), ((0 : Int), ())), ())))
    match quota_byPath (t0, t1, ()) with
    | none => none
    | some r2 =>
     bif (decide ((r2.1 : Int) < (0 : Int))) then
      some (.inl (s.1, s.2.1, (IntKind.i64.wrap (s.2.2.1 - (1 : Int))), s.2.2.2.1, ()))
     else
      some (.inr (.inl (s.1, s.2.1, s.2.2.1, s.2.2.2.1, ())))
   else
    none
  else
   none
 else
  some (.inr (.inl (s.1, s.2.1, s.2.2.1, s.2.2.2.1, ())))
def slices_partitionEqualCmpFunc_api_Quota_l2 (s : (Int) × (Int) × (Int) × (List (api_Quota)) × Unit) : Option (((Int) × (Int) × (Int) × (List (api_Quota)) × Unit) ⊕ (Unit)) := loopO (slices_partitionEqualCmpFunc_api_Quota_b2) s
def slices_partitionEqualCmpFunc_api_Quota_b0 (s : (Int) × (Int) × (Int) × (List (api_Quota)) × Unit) : Option (((Int) × (Int) × (Int) × (List (api_Quota)) × Unit) ⊕ (((Int) × (List (api_Quota)) × Unit) ⊕ (Unit))) :=
 match slices_partitionEqualCmpFunc_api_Quota_l1 (s.1, s.2.1, s.2.2.1, s.2.2.2.1, ()) with
 | none => none
 | some (.inl z0) =>
  match slices_partitionEqualCmpFunc_api_Quota_l2 (z0.1, z0.2.1, z0.2.2.1, z0.2.2.2.1, ()) with
  | none => none
  | some (.inl z1) =>
   bif (decide ((z1.2.1 : Int) > z1.2.2.1)) then
    some (.inr (.inl (z1.2.1, z1.2.2.2.1, ())))
   else
    bif (decide ((0 : Int) ≤ z1.2.2.1) && decide ((z1.2.2.1 : Int) < (List.length z1.2.2.2.1 : Int))) then
     let t2 : api_Quota := (List.getD z1.2.2.2.1 (Int.toNat z1.2.2.1) (([] : List UInt8), (((0 : Int), ((0 : Int), ())), ())))
     bif (decide ((0 : Int) ≤ z1.2.1) && decide ((z1.2.1 : Int) < (List.length z1.2.2.2.1 : Int))) then
      let t3 : api_Quota := (List.getD z1.2.2.2.1 (Int.toNat z1.2.1) (([] : List UInt8), (((0 : Int), ((0 : Int), ())), ())))
      bif (decide ((0 : Int) ≤ z1.2.1) && decide ((z1.2.1 : Int) < (List.length z1.2.2.2.1 : Int))) then
       let t4 : List (api_Quota) := (List.set z1.2.2.2.1 (Int.toNat z1.2.1) t2)
       bif (decide ((0 : Int) ≤ z1.2.2.1) && decide ((z1.2.2.1 : Int) < (List.length t4 : Int))) then
        let t5 : Int := (IntKind.i64.wrap (z1.2.2.1 - (1 : Int)))
        some (.inl (z1.1, (IntKind.i64.wrap (z1.2.1 + (1 : Int))), t5, (List.set t4 (Int.toNat z1.2.2.1) t3), ()))
       else
        none
      else
       none
     else
      none
    else
     none
  | some (.inr z1) =>
   none
 | some (.inr z0) =>
  none
def slices_partitionEqualCmpFunc_api_Quota_l0 (s : (Int) × (Int) × (Int) × (List (api_Quota)) × Unit) : Option (((Int) × (List (api_Quota)) × Unit) ⊕ (Unit)) := loopO (slices_partitionEqualCmpFunc_api_Quota_b0) s
def slices_partitionEqualCmpFunc_api_Quota (s : (Int) × (Int) × (Int) × (List (api_Quota)) × Unit) : Option ((Int) × (List (api_Quota)) × Unit) :=
 bif (decide ((0 : Int) ≤ s.2.2.1) && decide ((s.2.2.1 : Int) < (List.length s.2.2.2.1 : Int))) then
  let t0 : api_Quota := (List.getD s.2.2.2.1 (Int.toNat s.2.2.1) (([] : List UInt8), (((0 : Int), ((0 : Int), ())), ())))
  bif (decide ((0 : Int) ≤ s.1) && decide ((s.1 : Int) < (List.length s.2.2.2.1 : Int))) then
   let t1 : api_Quota := (List.getD s.2.2.2.1 (Int.toNat s.1) (([] : List UInt8), (((0 : Int), ((0 : Int), ())), ())))
   bif (decide ((0 : Int) ≤ s.1) && decide ((s.1 : Int) < (List.length s.2.2.2.1 : Int))) then
    bif (decide ((0 : Int) ≤ s.2.2.1) && decide ((s.2.2.1 : Int) < (List.length (List.set s.2.2.2.1 (Int.toNat s.1) t0) : Int))) then
     let t2 : List (api_Quota) := (List.set (List.set s.2.2.2.1 (Int.toNat s.1) t0) (Int.toNat s.2.2.1) t1)
     match slices_partitionEqualCmpFunc_api_Quota_l0 (s.1, (IntKind.i64.wrap (s.1 + (1 : Int))), (IntKind.i64.wrap (s.2.1 - (1 : Int))), t2, ()) with
     | none => none
     | some (.inl z3) =>
      some (z3.1, z3.2.1, ())
     | some (.inr z3) =>
      none
    else
     none
   else
    none
  else
   none
 else
  none
def slices_partitionCmpFunc_api_Quota_b0 (s : (Int) × (Int) × (Int) × (List (api_Quota)) × Unit) : Option (((Int) × (Int) × (Int) × (List (api_Quota)) × Unit) ⊕ (((Int) × (Int) × (Int) × (List (api_Quota)) × Unit) ⊕ (Unit))) :=
 bif (decide ((s.2.1 : Int) ≤ s.2.2.1)) then
  bif (decide ((0 : Int) ≤ s.2.1) && decide ((s.2.1 : Int) < (List.length s.2.2.2.1 : Int))) then
   let t0 : api_Quota := (List.getD s.2.2.2.1 (Int.toNat s.2.1) (([] : List UInt8), (((0 : Int), ((0 : Int), ())), ())))
   bif (decide ((0 : Int) ≤ s.1) && decide ((s.1 : Int) < (List.length s.2.2.2.1 : Int))) then
    let t1 : api_Quota := (List.getD s.2.2.2.1 (Int.toNat s.1) (([] : List UInt8), (((0 : Int), ((0 : Int), ())), ())))
    match quota_byPath (t0, t1, ()) with
    | none => none
    | some r2 =>
     bif (decide ((r2.1 : Int) < (0 : Int))) then
      some (.inl (s.1, (IntKind.i64.wrap (s.2.1 + (1 : Int))), s.2.2.1, s.2.2.2.1, ()))
     else
      some (.inr (.inl (s.1, s.2.1, s.2.2.1, s.2.2.2.1, ())))
   else
    none
  else
   none
 else
  some (.inr (.inl (s.1, s.2.1, s.2.2.1, s.2.2.2.1, ())))
def slices_partitionCmpFunc_api_Quota_l0 (s : (Int) × (Int) × (Int) × (List (api_Quota)) × Unit) : Option (((Int) × (Int) × (Int) × (List (api_Quota)) × Unit) ⊕ (Unit)) := loopO (slices_partitionCmpFunc_api_Quota_b0) s
def slices_partitionCmpFunc_api_Quota_b1 (s : (Int) × (Int) × (Int) × (List (api_Quota)) × Unit) : Option (((Int) × (Int) × (Int) × (List (api_Quota)) × Unit) ⊕ (((Int) × (Int) × (Int) × (List (api_Quota)) × Unit) ⊕ (Unit))) :=
 bif (decide ((s.2.1 : Int) ≤ s.2.2.1)) then
  bif (decide ((0 : Int) ≤ s.2.2.1) && decide ((s.2.2.1 : Int) < (List.length s.2.2.2.1 : Int))) then
   let t0 : api_Quota := (List.getD s.2.2.2.1 (Int.toNat s.2.2.1) (([] : List UInt8), (((0 : Int), ((0 : Int), ())), ())))
   bif (decide ((0 : Int) ≤ s.1) && decide ((s.1 : Int) < (List.length s.2.2.2.1 : Int))) then
    let t1 : api_Quota := (List.getD s.2.2.2.1 (Int.toNat s.1) (([] : List UInt8), (((0 : Int), ((0 : Int), ())), ())))
    match quota_byPath (t0, t1, ()) with
    | none => none
    | some r2 =>
     bif (!(decide ((r2.1 : Int) < (0 : Int)))) then
      some (.inl (s.1, s.2.1, (IntKind.i64.wrap (s.2.2.1 - (1 : Int))), s.2.2.2.1, ()))
     else
      some (.inr (.inl (s.1, s.2.1, s.2.2.1, s.2.2.2.1, ())))
   else
    none
  else
   none
 else
  some (.inr (.inl (s.1, s.2.1, s.2.2.1, s.2.2.2.1, ())))
def slices_partitionCmpFunc_api_Quota_l1 (s : (Int) × (Int) × (Int) × (List (api_Quota)) × Unit) : Option (((Int) × (Int) × (Int) × (List (api_Quota)) × Unit) ⊕ (Unit)) := loopO (slices_partitionCmpFunc_api_Quota_b1) s
def slices_partitionCmpFunc_api_Quota_b3 (s : (Int) × (Int) × (Int) × (List (api_Quota)) × Unit) : Option (((Int) × (Int) × (Int) × (List (api_Quota)) × Unit) ⊕ (((Int) × (Int) × (Int) × (List (api_Quota)) × Unit) ⊕ (Unit))) :=
 bif (decide ((s.2.1 : Int) ≤ s.2.2.1)) then
  bif (decide ((0 : Int) ≤ s.2.1) && decide ((s.2.1 : Int) < (List.length s.2.2.2.1 : Int))) then
   let t0 : api_Quota := (List.getD s.2.2.2.1 (Int.toNat s.2.1) (([] : List UInt8), (((0 : Int), ((0 : Int), ())), ())))
   bif (decide ((0 : Int) ≤ s.1) && decide ((s.1 : Int) < (List.length s.2.2.2.1 : Int))) then
    let t1 : api_Quota := (List.getD s.2.2.2.1 (Int.toNat s.1) (([] : List UInt8), (((0 : Int), ((0 : Int), ())), ())))
    match quota_byPath (t0, t1, ()) with
    | none => none
    | some r2 =>
     bif (decide ((r2.1 : Int) < (0 : Int))) then
      some (.inl (s.1, (IntKind.i64.wrap (s.2.1 + (1 : Int))), s.2.2.1, s.2.2.2.1, ()))
     else
      some (.inr (.inl (s.1, s.2.1, s.2.2.1, s.2.2.2.1, ())))
   else
    none
  else
   none
 else
  some (.inr (.inl (s.1, s.2.1, s.2.2.1, s.2.2.2.1, ())))
def slices_partitionCmpFunc_api_Quota_l3 (s : (Int) × (Int) × (Int) × (List (api_Quota)) × Unit) : Option (((Int) × (Int) × (Int) × (List (api_Quota)) × Unit) ⊕ (Unit)) := loopO (slices_partitionCmpFunc_api_Quota_b3) s
def slices_partitionCmpFunc_api_Quota_b4 (s : (Int) × (Int) × (Int) × (List (api_Quota)) × Unit) : Option (((Int) × (Int) × (Int) × (List (api_Quota)) × Unit) ⊕ (((Int) × (Int) × (Int) × (List (api_Quota)) × Unit) ⊕ (Unit))) :=
 bif (decide ((s.2.1 : Int) ≤ s.2.2.1)) then
  bif (decide ((0 : Int) ≤ s.2.2.1) && decide ((s.2.2.1 : Int) < (List.length s.2.2.2.1 : Int))) then
   let t0 : api_Quota := (List.getD s.2.2.2.1 (Int.toNat s.2.2.1) (([] : List UInt8), (((0 : Int), ((0 : Int), ())), ())))
   bif (decide ((0 : Int) ≤ s.1) && decide ((s.1 : Int) < (List.length s.2.2.2.1 : Int))) then
    let t1 : api_Quota := (List.getD s.2.2.2.1 (Int.toNat s.1) (([] : List UInt8), (((0 : Int), ((0 : Int), ())), ())))
    match quota_byPath (t0, t1, ()) with
    | none => none
    | some r2 =>
     bif (!(decide ((r2.1 : Int) < (0 : Int)))) then
      some (.inl (s.1, s.2.1, (IntKind.i64.wrap (s.2.2.1 - (1 : Int))), s.2.2.2.1, ()))
     else
      some (.inr (.inl (s.1, s.2.1, s.2.2.1, s.2.2.2.1, ())))
   else
    none
  else
   none
 else
  some (.inr (.inl (s.1, s.2.1, s.2.2.1, s.2.2.2.1, ())))
def slices_partitionCmpFunc_api_Quota_l4 (s : (Int) × (Int) × (Int) × (List (api_Quota)) × Unit) : Option (((Int) × (Int) × (Int) × (List (api_Quota)) × Unit) ⊕ (Unit)) := loopO (slices_partitionCmpFunc_api_Quota_b4) s
def slices_partitionCmpFunc_api_Quota_b2 (s : (Int) × (Int) × (Int) × (List (api_Quota)) × Unit) : Option (((Int) × (Int) × (Int) × (List (api_Quota)) × Unit) ⊕ (((Int) × (Int) × (List (api_Quota)) × Unit) ⊕ (Unit))) :=
 match slices_partitionCmpFunc_api_Quota_l3 (s.1, s.2.1, s.2.2.1, s.2.2.2.1, ()) with
 | none => none
 | some (.inl z0) =>
  match slices_partitionCmpFunc_api_Quota_l4 (z0.1, z0.2.1, z0.2.2.1, z0.2.2.2.1, ()) with
  | none => none
  | some (.inl z1) =>
   bif (decide ((z1.2.1 : Int) > z1.2.2.1)) then
    some (.inr (.inl (z1.1, z1.2.2.1, z1.2.2.2.1, ())))
   else
    bif (decide ((0 : Int) ≤ z1.2.2.1) && decide ((z1.2.2.1 : Int) < (List.length z1.2.2.2.1 : Int))) then
     let t2 : api_Quota := (List.getD z1.2.2.2.1 (Int.toNat z1.2.2.1) (([] : List UInt8), (((0 : Int), ((0 : Int), ())), ())))
     bif (decide ((0 : Int) ≤ z1.2.1) && decide ((z1.2.1 : Int) < (List.length z1.2.2.2.1 : Int))) then
      let t3 : api_Quota := (List.getD z1.2.2.2.1 (Int.toNat z1.2.1) (([] : List UInt8), (((0 : Int), ((0 : Int), ())), ())))
      bif (decide ((0 : Int) ≤ z1.2.1) && decide ((z1.2.1 : Int) < (List.length z1.2.2.2.1 : Int))) then
       let t4 : List (api_Quota) := (List.set z1.2.2.2.1 (Int.toNat z1.2.1) t2)
       bif (decide ((0 : Int) ≤ z1.2.2.1) && decide ((z1.2.2.1 : Int) < (List.length t4 : Int))) then
        let t5 : Int := (IntKind.i64.wrap (z1.2.2.1 - (1 : Int)))
        some (.inl (z1.1, (IntKind.i64.wrap (z1.2.1 + (1 : Int))), t5, (List.set t4 (Int.toNat z1.2.2.1) t3), ()))
       else
        none
      else
       none
     else
      none
    else
     none
  | some (.inr z1) =>
   none
 | some (.inr z0) =>
  none
def slices_partitionCmpFunc_api_Quota_l2 (s : (Int) × (Int) × (Int) × (List (api_Quota)) × Unit) : Option (((Int) × (Int) × (List (api_Quota)) × Unit) ⊕ (Unit)) := loopO (slices_partitionCmpFunc_api_Quota_b2) s
def slices_partitionCmpFunc_api_Quota (s : (Int) × (Int) × (Int) × (List (api_Quota)) × Unit) : Option ((Int) × (Bool) × (List (api_Quota)) × Unit) :=
 bif (decide ((0 : Int) ≤ s.2.2.1) && decide ((s.2.2.1 : Int) < (List.length s.2.2.2.1 : Int))) then
  let t0 : api_Quota := (List.getD s.2.2.2.1 (Int.toNat s.2.2.1) (([] : List UInt8), (((0 : Int), ((0 : Int), ())), ())))
  bif (decide ((0 : Int) ≤ s.1) && decide ((s.1 : Int) < (List.length s.2.2.2.1 : Int))) then
   let t1 : api_Quota := (List.getD s.2.2.2.1 (Int.toNat s.1) (([] : List UInt8), (((0 : Int), ((0 : Int), ())), ())))
   bif (decide ((0 : Int) ≤ s.1) && decide ((s.1 : Int) < (List.length s.2.2.2.1 : Int))) then
    bif (decide ((0 : Int) ≤ s.2.2.1) && decide ((s.2.2.1 : Int) < (List.length (List.set s.2.2.2.1 (Int.toNat s.1) t0) : Int))) then
     let t2 : List (api_Quota) := (List.set (List.set s.2.2.2.1 (Int.toNat s.1) t0) (Int.toNat s.2.2.1) t1)
     match slices_partitionCmpFunc_api_Quota_l0 (s.1, (IntKind.i64.wrap (s.1 + (1 : Int))), (IntKind.i64.wrap (s.2.1 - (1 : Int))), t2, ()) with
     | none => none
     | some (.inl z3) =>
      match slices_partitionCmpFunc_api_Quota_l1 (z3.1, z3.2.1, z3.2.2.1, z3.2.2.2.1, ()) with
      | none => none
      | some (.inl z4) =>
       bif (decide ((z4.2.1 : Int) > z4.2.2.1)) then
        bif (decide ((0 : Int) ≤ z4.1) && decide ((z4.1 : Int) < (List.length z4.2.2.2.1 : Int))) then
         let t5 : api_Quota := (List.getD z4.2.2.2.1 (Int.toNat z4.1) (([] : List UInt8), (((0 : Int), ((0 : Int), ())), ())))
         bif (decide ((0 : Int) ≤ z4.2.2.1) && decide ((z4.2.2.1 : Int) < (List.length z4.2.2.2.1 : Int))) then
          let t6 : api_Quota := (List.getD z4.2.2.2.1 (Int.toNat z4.2.2.1) (([] : List UInt8), (((0 : Int), ((0 : Int), ())), ())))
          bif (decide ((0 : Int) ≤ z4.2.2.1) && decide ((z4.2.2.1 : Int) < (List.length z4.2.2.2.1 : Int))) then
           let t7 : List (api_Quota) := (List.set z4.2.2.2.1 (Int.toNat z4.2.2.1) t5)
           bif (decide ((0 : Int) ≤ z4.1) && decide ((z4.1 : Int) < (List.length t7 : Int))) then
            some (z4.2.2.1, true, (List.set t7 (Int.toNat z4.1) t6), ())
           else
            none
          else
           none
         else
          none
        else
         none
       else
        bif (decide ((0 : Int) ≤ z4.2.2.1) && decide ((z4.2.2.1 : Int) < (List.length z4.2.2.2.1 : Int))) then
         let t5 : api_Quota := (List.getD z4.2.2.2.1 (Int.toNat z4.2.2.1) (([] : List UInt8), (((0 : Int), ((0 : Int), ())), ())))
         bif (decide ((0 : Int) ≤ z4.2.1) && decide ((z4.2.1 : Int) < (List.length z4.2.2.2.1 : Int))) then
          let t6 : api_Quota := (List.getD z4.2.2.2.1 (Int.toNat z4.2.1) (([] : List UInt8), (((0 : Int), ((0 : Int), ())), ())))
          bif (decide ((0 : Int) ≤ z4.2.1) && decide ((z4.2.1 : Int) < (List.length z4.2.2.2.1 : Int))) then
           let t7 : List (api_Quota) := (List.set z4.2.2.2.1 (Int.toNat z4.2.1) t5)
           bif (decide ((0 : Int) ≤ z4.2.2.1) && decide ((z4.2.2.1 : Int) < (List.length t7 : Int))) then
            let t8 : Int := (IntKind.i64.wrap (z4.2.2.1 - (1 : Int)))
            match slices_partitionCmpFunc_api_Quota_l2 (z4.1, (IntKind.i64.wrap (z4.2.1 + (1 : Int))), t8, (List.set t7 (Int.toNat z4.2.2.1) t6), ()) with
            | none => none
            | some (.inl z9) =>
             bif (decide ((0 : Int) ≤ z9.1) && decide ((z9.1 : Int) < (List.length z9.2.2.1 : Int))) then
              let t10 : api_Quota := (List.getD z9.2.2.1 (Int.toNat z9.1) (([] : List UInt8), (((0 : Int), ((0 : Int), ())), ())))
              bif (decide ((0 : Int) ≤ z9.2.1) && decide ((z9.2.1 : Int) < (List.length z9.2.2.1 : Int))) then
               let t11 : api_Quota := (List.getD z9.2.2.1 (Int.toNat z9.2.1) (([] : List UInt8), (((0 : Int), ((0 : Int), ())), ())))
               bif (decide ((0 : Int) ≤ z9.2.1) && decide ((z9.2.1 : Int) < (List.length z9.2.2.1 : Int))) then
                let t12 : List (api_Quota) := (List.set z9.2.2.1 (Int.toNat z9.2.1) t10)
                bif (decide ((0 : Int) ≤ z9.1) && decide ((z9.1 : Int) < (List.length t12 : Int))) then
                 some (z9.2.1, false, (List.set t12 (Int.toNat z9.1) t11), ())
                else
                 none
               else
                none
              else
               none
             else
              none
            | some (.inr z9) =>
             none
           else
            none
          else
           none
         else
          none
        else
         none
      | some (.inr z4) =>
       none
     | some (.inr z3) =>
      none
    else
     none
   else
    none
  else
   none
 else
  none
def slices_nextPowerOfTwo (s : (Int) × Unit) : Option ((Int) × Unit) :=
 match math_bits_Len ((IntKind.u64.wrap s.1), ()) with
 | none => none
 | some r0 =>
  bif (decide (r0.1 < (0 : Int))) then
   none
  else
   let t1 : Int := (IntKind.u64.wrap ((1 : Int) * 2 ^ (min (Int.toNat r0.1) IntKind.u64.bits)))
   some (t1, ())
def slices_xorshift_Next (s : (Int) × Unit) : Option (api_Use) :=
 let t0 : Int := (IntKind.u64.wrap (s.1 * 2 ^ (min (Int.toNat (13 : Int)) IntKind.u64.bits)))
 let t1 : Int := (IntKind.u64.wrap ((BitVec.ofInt IntKind.u64.bits s.1 ^^^ BitVec.ofInt IntKind.u64.bits t0).toNat : Int))
 let t2 : Int := (Int.fdiv t1 (2 ^ (min (Int.toNat (7 : Int)) IntKind.u64.bits)))
 let t3 : Int := (IntKind.u64.wrap ((BitVec.ofInt IntKind.u64.bits t1 ^^^ BitVec.ofInt IntKind.u64.bits t2).toNat : Int))
 let t4 : Int := (IntKind.u64.wrap (t3 * 2 ^ (min (Int.toNat (17 : Int)) IntKind.u64.bits)))
 let t5 : Int := (IntKind.u64.wrap ((BitVec.ofInt IntKind.u64.bits t3 ^^^ BitVec.ofInt IntKind.u64.bits t4).toNat : Int))
 some (t5, t5, ())
def slices_breakPatternsCmpFunc_api_Quota_b0_j0 (s : (Int) × (Int) × (Int) × (Int) × (Int) × (List (api_Quota)) × (Int) × Unit) : Option (((Int) × (Int) × (Int) × (Int) × (List (api_Quota)) × (Int) × Unit) ⊕ (((List (api_Quota)) × Unit) ⊕ (Unit))) :=
 bif (decide ((0 : Int) ≤ (IntKind.i64.wrap (s.1 + s.2.2.2.2.1))) && decide (((IntKind.i64.wrap (s.1 + s.2.2.2.2.1)) : Int) < (List.length s.2.2.2.2.2.1 : Int))) then
  let t0 : api_Quota := (List.getD s.2.2.2.2.2.1 (Int.toNat (IntKind.i64.wrap (s.1 + s.2.2.2.2.1))) (([] : List UInt8), (((0 : Int), ((0 : Int), ())), ())))
  bif (decide ((0 : Int) ≤ s.2.2.2.1) && decide ((s.2.2.2.1 : Int) < (List.length s.2.2.2.2.2.1 : Int))) then
   let t1 : api_Quota := (List.getD s.2.2.2.2.2.1 (Int.toNat s.2.2.2.1) (([] : List UInt8), (((0 : Int), ((0 : Int), ())), ())))
   bif (decide ((0 : Int) ≤ s.2.2.2.1) && decide ((s.2.2.2.1 : Int) < (List.length s.2.2.2.2.2.1 : Int))) then
    let t2 : List (api_Quota) := (List.set s.2.2.2.2.2.1 (Int.toNat s.2.2.2.1) t0)
    bif (decide ((0 : Int) ≤ (IntKind.i64.wrap (s.1 + s.2.2.2.2.1))) && decide (((IntKind.i64.wrap (s.1 + s.2.2.2.2.1)) : Int) < (List.length t2 : Int))) then
     let t3 : List (api_Quota) := (List.set t2 (Int.toNat (IntKind.i64.wrap (s.1 + s.2.2.2.2.1))) t1)
     let t4 : Int := (IntKind.i64.wrap (s.2.2.2.1 + (1 : Int)))
     some (.inl (s.1, s.2.1, s.2.2.1, t4, t3, s.2.2.2.2.2.2.1, ()))
    else
     none
   else
    none
  else
   none
 else
  none

def slices_breakPatternsCmpFunc_api_Quota_b0 (s : (Int) × (Int) × (Int) × (Int) × (List (api_Quota)) × (Int) × Unit) : Option (((Int) × (Int) × (Int) × (Int) × (List (api_Quota)) × (Int) × Unit) ⊕ (((List (api_Quota)) × Unit) ⊕ (Unit))) :=
 let t0 : Int := (IntKind.i64.wrap (Int.tdiv s.2.1 (4 : Int)))
 let t1 : Int := (IntKind.i64.wrap (s.1 + (IntKind.i64.wrap (t0 * (2 : Int)))))
 let t2 : Bool := (decide ((s.2.2.2.1 : Int) ≤ (IntKind.i64.wrap (t1 + (1 : Int)))))
 bif t2 then
  match slices_xorshift_Next (s.2.2.2.2.2.1, ()) with
  | none => none
  | some r3 =>
   let t4 : Int := (IntKind.u64.wrap ((BitVec.ofInt IntKind.u64.bits r3.1 &&& BitVec.ofInt IntKind.u64.bits (IntKind.u64.wrap (s.2.2.1 - (1 : Int)))).toNat : Int))
   let t5 : Bool := (decide (((IntKind.i64.wrap t4) : Int) ≥ s.2.1))
   bif t5 then
    let t6 : Int := (IntKind.i64.wrap ((IntKind.i64.wrap t4) - s.2.1))
    slices_breakPatternsCmpFunc_api_Quota_b0_j0 (s.1, s.2.1, s.2.2.1, s.2.2.2.1, t6, s.2.2.2.2.1, r3.2.1, ())
   else
    slices_breakPatternsCmpFunc_api_Quota_b0_j0 (s.1, s.2.1, s.2.2.1, s.2.2.2.1, (IntKind.i64.wrap t4), s.2.2.2.2.1, r3.2.1, ())
 else
  some (.inr (.inl (s.2.2.2.2.1, ())))
def slices_breakPatternsCmpFunc_api_Quota_l0 (s : (Int) × (Int) × (Int) × (Int) × (List (api_Quota)) × (Int) × Unit) : Option (((List (api_Quota)) × Unit) ⊕ (Unit)) := loopO (slices_breakPatternsCmpFunc_api_Quota_b0) s
def slices_breakPatternsCmpFunc_api_Quota (s : (Int) × (Int) × (List (api_Quota)) × Unit) : Option ((List (api_Quota)) × Unit) :=
 let t0 : Bool := (decide (((IntKind.i64.wrap (s.2.1 - s.1)) : Int) ≥ (8 : Int)))
 bif t0 then
  let t1 : Int := (IntKind.u64.wrap (IntKind.i64.wrap (s.2.1 - s.1)))
  match slices_nextPowerOfTwo ((IntKind.i64.wrap (s.2.1 - s.1)), ()) with
  | none => none
  | some r2 =>
   let t3 : Int := (IntKind.i64.wrap (Int.tdiv (IntKind.i64.wrap (s.2.1 - s.1)) (4 : Int)))
   let t4 : Int := (IntKind.i64.wrap (s.1 + (IntKind.i64.wrap (t3 * (2 : Int)))))
   match slices_breakPatternsCmpFunc_api_Quota_l0 (s.1, (IntKind.i64.wrap (s.2.1 - s.1)), r2.1, (IntKind.i64.wrap (t4 - (1 : Int))), s.2.2.1, t1, ()) with
   | none => none
   | some (.inl z5) =>
    some (z5.1, ())
   | some (.inr z5) =>
    none
 else
  some (s.2.2.1, ())
def slices_pdqsortCmpFunc_api_Quota_c100016 (slices_pdqsortCmpFunc_api_Quota_r : ((Int) × (Int) × (Int) × (List (api_Quota)) × Unit) → Option ((List (api_Quota)) × Unit)) (s : (Int) × (Int) × (Int) × (Bool) × (Bool) × (Int) × (Int) × (Bool) × (List (api_Quota)) × Unit) : Option (((Int) × (Int) × (Int) × (Bool) × (Bool) × (Int) × (Int) × (List (api_Quota)) × Unit) ⊕ ((List (api_Quota)) × Unit)) :=
 bif s.2.2.2.2.2.2.2.1 then
  match slices_partialInsertionSortCmpFunc_api_Quota (s.1, s.2.1, s.2.2.2.2.2.2.2.2.1, ()) with
  | none => none
  | some r0 =>
   bif r0.1 then
    some (.inr (r0.2.1, ()))
   else
    some (.inl (s.1, s.2.1, s.2.2.1, s.2.2.2.1, s.2.2.2.2.1, s.2.2.2.2.2.1, s.2.2.2.2.2.2.1, r0.2.1, ()))
 else
  some (.inl (s.1, s.2.1, s.2.2.1, s.2.2.2.1, s.2.2.2.2.1, s.2.2.2.2.2.1, s.2.2.2.2.2.2.1, s.2.2.2.2.2.2.2.2.1, ()))
def slices_pdqsortCmpFunc_api_Quota_c100018 (slices_pdqsortCmpFunc_api_Quota_r : ((Int) × (Int) × (Int) × (List (api_Quota)) × Unit) → Option ((List (api_Quota)) × Unit)) (s : (Int) × (Int) × (Int) × (Bool) × (Bool) × (Int) × (Int) × (Bool) × (List (api_Quota)) × Unit) : Option (((Int) × (Int) × (Int) × (Int) × (Int) × (List (api_Quota)) × Unit) ⊕ ((Int) × (Int) × (Int) × (Bool) × (Bool) × (List (api_Quota)) × Unit)) :=
 bif s.2.2.2.2.2.2.2.1 then
  match slices_partitionEqualCmpFunc_api_Quota (s.1, s.2.1, s.2.2.2.2.2.2.1, s.2.2.2.2.2.2.2.2.1, ()) with
  | none => none
  | some r0 =>
   some (.inr (r0.1, s.2.1, s.2.2.1, s.2.2.2.1, s.2.2.2.2.1, r0.2.1, ()))
 else
  some (.inl (s.1, s.2.1, s.2.2.1, s.2.2.2.2.2.1, s.2.2.2.2.2.2.1, s.2.2.2.2.2.2.2.2.1, ()))
def slices_pdqsortCmpFunc_api_Quota_c20 (slices_pdqsortCmpFunc_api_Quota_r : ((Int) × (Int) × (Int) × (List (api_Quota)) × Unit) → Option ((List (api_Quota)) × Unit)) (s : (Int) × (Int) × (Int) × (Int) × (Int) × (List (api_Quota)) × Unit) : Option (((Int) × (Int) × (Int) × (Bool) × (Bool) × (List (api_Quota)) × Unit) ⊕ (Unit)) :=
 match slices_partitionCmpFunc_api_Quota (s.1, s.2.1, s.2.2.2.2.1, s.2.2.2.2.2.1, ()) with
 | none => none
 | some r0 =>
  let t1 : Int := (IntKind.i64.wrap (Int.tdiv s.2.2.2.1 (8 : Int)))
  let t2 : Bool := (decide (((IntKind.i64.wrap (r0.1 - s.1)) : Int) < (IntKind.i64.wrap (s.2.1 - r0.1))))
  bif t2 then
   let t3 : Bool := (decide (((IntKind.i64.wrap (r0.1 - s.1)) : Int) ≥ t1))
   match slices_pdqsortCmpFunc_api_Quota_r (s.1, r0.1, s.2.2.1, r0.2.2.1, ()) with
   | none => none
   | some r4 =>
    some (.inl ((IntKind.i64.wrap (r0.1 + (1 : Int))), s.2.1, s.2.2.1, t3, r0.2.1, r4.1, ()))
  else
   let t3 : Bool := (decide (((IntKind.i64.wrap (s.2.1 - r0.1)) : Int) ≥ t1))
   match slices_pdqsortCmpFunc_api_Quota_r ((IntKind.i64.wrap (r0.1 + (1 : Int))), s.2.1, s.2.2.1, r0.2.2.1, ()) with
   | none => none
   | some r4 =>
    some (.inl (s.1, r0.1, s.2.2.1, t3, r0.2.1, r4.1, ()))
def slices_pdqsortCmpFunc_api_Quota_c17 (slices_pdqsortCmpFunc_api_Quota_r : ((Int) × (Int) × (Int) × (List (api_Quota)) × Unit) → Option ((List (api_Quota)) × Unit)) (s : (Int) × (Int) × (Int) × (Bool) × (Bool) × (Int) × (Int) × (List (api_Quota)) × Unit) : Option (((Int) × (Int) × (Int) × (Bool) × (Bool) × (List (api_Quota)) × Unit) ⊕ ((Int) × (Int) × (Int) × (Bool) × (Bool) × (List (api_Quota)) × Unit)) :=
 bif (decide ((s.1 : Int) > (0 : Int))) then
  bif (decide ((0 : Int) ≤ (IntKind.i64.wrap (s.1 - (1 : Int)))) && decide (((IntKind.i64.wrap (s.1 - (1 : Int))) : Int) < (List.length s.2.2.2.2.2.2.2.1 : Int))) then
   let t0 : api_Quota := (List.getD s.2.2.2.2.2.2.2.1 (Int.toNat (IntKind.i64.wrap (s.1 - (1 : Int)))) (([] : List UInt8), (((0 : Int), ((0 : Int), ())), ())))
   bif (decide ((0 : Int) ≤ s.2.2.2.2.2.2.1) && decide ((s.2.2.2.2.2.2.1 : Int) < (List.length s.2.2.2.2.2.2.2.1 : Int))) then
    let t1 : api_Quota := (List.getD s.2.2.2.2.2.2.2.1 (Int.toNat s.2.2.2.2.2.2.1) (([] : List UInt8), (((0 : Int), ((0 : Int), ())), ())))
    match quota_byPath (t0, t1, ()) with
    | none => none
    | some r2 =>
     match slices_pdqsortCmpFunc_api_Quota_c100018 slices_pdqsortCmpFunc_api_Quota_r (s.1, s.2.1, s.2.2.1, s.2.2.2.1, s.2.2.2.2.1, s.2.2.2.2.2.1, s.2.2.2.2.2.2.1, (!(decide ((r2.1 : Int) < (0 : Int)))), s.2.2.2.2.2.2.2.1, ()) with
     | none => none
     | some (.inl z3) =>
      match slices_pdqsortCmpFunc_api_Quota_c20 slices_pdqsortCmpFunc_api_Quota_r (z3.1, z3.2.1, z3.2.2.1, z3.2.2.2.1, z3.2.2.2.2.1, z3.2.2.2.2.2.1, ()) with
      | none => none
      | some (.inl z4) =>
       some (.inl (z4.1, z4.2.1, z4.2.2.1, z4.2.2.2.1, z4.2.2.2.2.1, z4.2.2.2.2.2.1, ()))
      | some (.inr z4) =>
       none
     | some (.inr z3) =>
      some (.inr (z3.1, z3.2.1, z3.2.2.1, z3.2.2.2.1, z3.2.2.2.2.1, z3.2.2.2.2.2.1, ()))
   else
    none
  else
   none
 else
  match slices_pdqsortCmpFunc_api_Quota_c100018 slices_pdqsortCmpFunc_api_Quota_r (s.1, s.2.1, s.2.2.1, s.2.2.2.1, s.2.2.2.2.1, s.2.2.2.2.2.1, s.2.2.2.2.2.2.1, false, s.2.2.2.2.2.2.2.1, ()) with
  | none => none
  | some (.inl z0) =>
   match slices_pdqsortCmpFunc_api_Quota_c20 slices_pdqsortCmpFunc_api_Quota_r (z0.1, z0.2.1, z0.2.2.1, z0.2.2.2.1, z0.2.2.2.2.1, z0.2.2.2.2.2.1, ()) with
   | none => none
   | some (.inl z1) =>
    some (.inl (z1.1, z1.2.1, z1.2.2.1, z1.2.2.2.1, z1.2.2.2.2.1, z1.2.2.2.2.2.1, ()))
   | some (.inr z1) =>
    none
  | some (.inr z0) =>
   some (.inr (z0.1, z0.2.1, z0.2.2.1, z0.2.2.2.1, z0.2.2.2.2.1, z0.2.2.2.2.2.1, ()))
def slices_pdqsortCmpFunc_api_Quota_b0_j1 (slices_pdqsortCmpFunc_api_Quota_r : ((Int) × (Int) × (Int) × (List (api_Quota)) × Unit) → Option ((List (api_Quota)) × Unit)) (s : (Int) × (Int) × (Int) × (Bool) × (Bool) × (Int) × (Int) × (Int) × (List (api_Quota)) × Unit) : Option (((Int) × (Int) × (Int) × (Bool) × (Bool) × (List (api_Quota)) × Unit) ⊕ (((List (api_Quota)) × Unit) ⊕ (Unit))) :=
 bif s.2.2.2.1 then
  bif s.2.2.2.2.1 then
   let t0 : Bool := (decide ((s.2.2.2.2.2.2.2.1 : Int) = (1 : Int)))
   match slices_pdqsortCmpFunc_api_Quota_c100016 slices_pdqsortCmpFunc_api_Quota_r (s.1, s.2.1, s.2.2.1, s.2.2.2.1, s.2.2.2.2.1, s.2.2.2.2.2.1, s.2.2.2.2.2.2.1, t0, s.2.2.2.2.2.2.2.2.1, ()) with
   | none => none
   | some (.inl z1) =>
    match slices_pdqsortCmpFunc_api_Quota_c17 slices_pdqsortCmpFunc_api_Quota_r (z1.1, z1.2.1, z1.2.2.1, z1.2.2.2.1, z1.2.2.2.2.1, z1.2.2.2.2.2.1, z1.2.2.2.2.2.2.1, z1.2.2.2.2.2.2.2.1, ()) with
    | none => none
    | some (.inl z2) =>
     some (.inl (z2.1, z2.2.1, z2.2.2.1, z2.2.2.2.1, z2.2.2.2.2.1, z2.2.2.2.2.2.1, ()))
    | some (.inr z2) =>
     some (.inl (z2.1, z2.2.1, z2.2.2.1, z2.2.2.2.1, z2.2.2.2.2.1, z2.2.2.2.2.2.1, ()))
   | some (.inr z1) =>
    some (.inr (.inl (z1.1, ())))
  else
   match slices_pdqsortCmpFunc_api_Quota_c100016 slices_pdqsortCmpFunc_api_Quota_r (s.1, s.2.1, s.2.2.1, s.2.2.2.1, s.2.2.2.2.1, s.2.2.2.2.2.1, s.2.2.2.2.2.2.1, false, s.2.2.2.2.2.2.2.2.1, ()) with
   | none => none
   | some (.inl z0) =>
    match slices_pdqsortCmpFunc_api_Quota_c17 slices_pdqsortCmpFunc_api_Quota_r (z0.1, z0.2.1, z0.2.2.1, z0.2.2.2.1, z0.2.2.2.2.1, z0.2.2.2.2.2.1, z0.2.2.2.2.2.2.1, z0.2.2.2.2.2.2.2.1, ()) with
    | none => none
    | some (.inl z1) =>
     some (.inl (z1.1, z1.2.1, z1.2.2.1, z1.2.2.2.1, z1.2.2.2.2.1, z1.2.2.2.2.2.1, ()))
    | some (.inr z1) =>
     some (.inl (z1.1, z1.2.1, z1.2.2.1, z1.2.2.2.1, z1.2.2.2.2.1, z1.2.2.2.2.2.1, ()))
   | some (.inr z0) =>
    some (.inr (.inl (z0.1, ())))
 else
  match slices_pdqsortCmpFunc_api_Quota_c100016 slices_pdqsortCmpFunc_api_Quota_r (s.1, s.2.1, s.2.2.1, s.2.2.2.1, s.2.2.2.2.1, s.2.2.2.2.2.1, s.2.2.2.2.2.2.1, false, s.2.2.2.2.2.2.2.2.1, ()) with
  | none => none
  | some (.inl z0) =>
   match slices_pdqsortCmpFunc_api_Quota_c17 slices_pdqsortCmpFunc_api_Quota_r (z0.1, z0.2.1, z0.2.2.1, z0.2.2.2.1, z0.2.2.2.2.1, z0.2.2.2.2.2.1, z0.2.2.2.2.2.2.1, z0.2.2.2.2.2.2.2.1, ()) with
   | none => none
   | some (.inl z1) =>
    some (.inl (z1.1, z1.2.1, z1.2.2.1, z1.2.2.2.1, z1.2.2.2.2.1, z1.2.2.2.2.2.1, ()))
   | some (.inr z1) =>
    some (.inl (z1.1, z1.2.1, z1.2.2.1, z1.2.2.2.1, z1.2.2.2.2.1, z1.2.2.2.2.2.1, ()))
  | some (.inr z0) =>
   some (.inr (.inl (z0.1, ())))
def slices_pdqsortCmpFunc_api_Quota_b0_j0 (slices_pdqsortCmpFunc_api_Quota_r : ((Int) × (Int) × (Int) × (List (api_Quota)) × Unit) → Option ((List (api_Quota)) × Unit)) (s : (Int) × (Int) × (Int) × (Bool) × (Bool) × (Int) × (List (api_Quota)) × Unit) : Option (((Int) × (Int) × (Int) × (Bool) × (Bool) × (List (api_Quota)) × Unit) ⊕ (((List (api_Quota)) × Unit) ⊕ (Unit))) :=
 match slices_choosePivotCmpFunc_api_Quota (s.1, s.2.1, s.2.2.2.2.2.2.1, ()) with
 | none => none
 | some r0 =>
  bif (decide ((r0.2.1 : Int) = (2 : Int))) then
   match slices_reverseRangeCmpFunc_api_Quota (s.1, s.2.1, r0.2.2.1, ()) with
   | none => none
   | some r1 =>
    let t2 : Int := (IntKind.i64.wrap ((IntKind.i64.wrap (s.2.1 - (1 : Int))) - (IntKind.i64.wrap (r0.1 - s.1))))
    slices_pdqsortCmpFunc_api_Quota_b0_j1 slices_pdqsortCmpFunc_api_Quota_r (s.1, s.2.1, s.2.2.1, s.2.2.2.1, s.2.2.2.2.1, s.2.2.2.2.2.1, t2, (1 : Int), r1.1, ())
  else
   slices_pdqsortCmpFunc_api_Quota_b0_j1 slices_pdqsortCmpFunc_api_Quota_r (s.1, s.2.1, s.2.2.1, s.2.2.2.1, s.2.2.2.2.1, s.2.2.2.2.2.1, r0.1, r0.2.1, r0.2.2.1, ())

def slices_pdqsortCmpFunc_api_Quota_b0 (slices_pdqsortCmpFunc_api_Quota_r : ((Int) × (Int) × (Int) × (List (api_Quota)) × Unit) → Option ((List (api_Quota)) × Unit)) (s : (Int) × (Int) × (Int) × (Bool) × (Bool) × (List (api_Quota)) × Unit) : Option (((Int) × (Int) × (Int) × (Bool) × (Bool) × (List (api_Quota)) × Unit) ⊕ (((List (api_Quota)) × Unit) ⊕ (Unit))) :=
 let t0 : Bool := (decide (((IntKind.i64.wrap (s.2.1 - s.1)) : Int) ≤ (12 : Int)))
 bif t0 then
  match slices_insertionSortCmpFunc_api_Quota (s.1, s.2.1, s.2.2.2.2.2.1, ()) with
  | none => none
  | some r1 =>
   some (.inr (.inl (r1.1, ())))
 else
  bif (decide ((s.2.2.1 : Int) = (0 : Int))) then
   match slices_heapSortCmpFunc_api_Quota (s.1, s.2.1, s.2.2.2.2.2.1, ()) with
   | none => none
   | some r1 =>
    some (.inr (.inl (r1.1, ())))
  else
   bif (!s.2.2.2.1) then
    match slices_breakPatternsCmpFunc_api_Quota (s.1, s.2.1, s.2.2.2.2.2.1, ()) with
    | none => none
    | some r1 =>
     slices_pdqsortCmpFunc_api_Quota_b0_j0 slices_pdqsortCmpFunc_api_Quota_r (s.1, s.2.1, (IntKind.i64.wrap (s.2.2.1 - (1 : Int))), s.2.2.2.1, s.2.2.2.2.1, (IntKind.i64.wrap (s.2.1 - s.1)), r1.1, ())
   else
    slices_pdqsortCmpFunc_api_Quota_b0_j0 slices_pdqsortCmpFunc_api_Quota_r (s.1, s.2.1, s.2.2.1, s.2.2.2.1, s.2.2.2.2.1, (IntKind.i64.wrap (s.2.1 - s.1)), s.2.2.2.2.2.1, ())
def slices_pdqsortCmpFunc_api_Quota_l0 (slices_pdqsortCmpFunc_api_Quota_r : ((Int) × (Int) × (Int) × (List (api_Quota)) × Unit) → Option ((List (api_Quota)) × Unit)) (s : (Int) × (Int) × (Int) × (Bool) × (Bool) × (List (api_Quota)) × Unit) : Option (((List (api_Quota)) × Unit) ⊕ (Unit)) := loopO (slices_pdqsortCmpFunc_api_Quota_b0 slices_pdqsortCmpFunc_api_Quota_r) s
def slices_pdqsortCmpFunc_api_Quota_step (slices_pdqsortCmpFunc_api_Quota_r : ((Int) × (Int) × (Int) × (List (api_Quota)) × Unit) → Option ((List (api_Quota)) × Unit)) (s : (Int) × (Int) × (Int) × (List (api_Quota)) × Unit) : Option ((List (api_Quota)) × Unit) :=
 match slices_pdqsortCmpFunc_api_Quota_l0 slices_pdqsortCmpFunc_api_Quota_r (s.1, s.2.1, s.2.2.1, true, true, s.2.2.2.1, ()) with
 | none => none
 | some (.inl z0) =>
  some (z0.1, ())
 | some (.inr z0) =>
  none
def slices_pdqsortCmpFunc_api_Quota_fuel : Nat → ((Int) × (Int) × (Int) × (List (api_Quota)) × Unit) → Option ((List (api_Quota)) × Unit)
 | 0, _ => none
 | n + 1, s => slices_pdqsortCmpFunc_api_Quota_step (slices_pdqsortCmpFunc_api_Quota_fuel n) s
def slices_pdqsortCmpFunc_api_Quota (s : (Int) × (Int) × (Int) × (List (api_Quota)) × Unit) : Option ((List (api_Quota)) × Unit) := slices_pdqsortCmpFunc_api_Quota_fuel huge s
def slices_SortFunc_api_Quota_api_Quota (s : (List (api_Quota)) × Unit) : Option ((List (api_Quota)) × Unit) :=
 let t0 : Int := (IntKind.u64.wrap ((List.length s.1) : Int))
 match math_bits_Len (t0, ()) with
 | none => none
 | some r1 =>
  match slices_pdqsortCmpFunc_api_Quota ((0 : Int), ((List.length s.1) : Int), r1.1, s.1, ()) with
  | none => none
  | some r2 =>
   some (r2.1, ())
def quota_Moved_b0 (s : (List UInt8) × (List UInt8) × (List (api_Quota)) × (Int) × (Int) × (List (api_Quota)) × Unit) : Option (((List UInt8) × (List UInt8) × (List (api_Quota)) × (Int) × (Int) × (List (api_Quota)) × Unit) ⊕ (((List (api_Quota)) × Unit) ⊕ (Unit))) :=
 let t0 : Bool := (decide ((s.2.2.2.2.1 : Int) < s.2.2.2.1))
 bif t0 then
  bif (decide ((0 : Int) ≤ s.2.2.2.2.1) && decide ((s.2.2.2.2.1 : Int) < (List.length s.2.2.1 : Int))) then
   let t1 : api_Quota := (List.getD s.2.2.1 (Int.toNat s.2.2.2.2.1) (([] : List UInt8), (((0 : Int), ((0 : Int), ())), ())))
   match strings_HasPrefix (t1.1, s.2.1, ()) with
   | none => none
   | some r2 =>
    bif r2.1 then
     let t3 : Int := (IntKind.i64.wrap (s.2.2.2.2.1 + (1 : Int)))
     some (.inl (s.1, s.2.1, s.2.2.1, s.2.2.2.1, t3, s.2.2.2.2.2.1, ()))
    else
     match span_Moved (t1.1, s.1, s.2.1, ()) with
     | none => none
     | some r3 =>
      bif r3.2.1 then
       bif (decide ((List.length s.2.2.2.2.2.1 + List.length ([(r3.1, (t1.2.1, ()))] : List (api_Quota))) * 32 ≤ roomMax)) then
        let t4 : List (api_Quota) := (s.2.2.2.2.2.1 ++ ([(r3.1, (t1.2.1, ()))] : List (api_Quota)))
        let t5 : Int := (IntKind.i64.wrap (s.2.2.2.2.1 + (1 : Int)))
        some (.inl (s.1, s.2.1, s.2.2.1, s.2.2.2.1, t5, t4, ()))
       else
        none
      else
       bif (decide ((List.length s.2.2.2.2.2.1 + List.length ([t1] : List (api_Quota))) * 32 ≤ roomMax)) then
        let t4 : List (api_Quota) := (s.2.2.2.2.2.1 ++ ([t1] : List (api_Quota)))
        let t5 : Int := (IntKind.i64.wrap (s.2.2.2.2.1 + (1 : Int)))
        some (.inl (s.1, s.2.1, s.2.2.1, s.2.2.2.1, t5, t4, ()))
       else
        none
  else
   none
 else
  some (.inr (.inl (s.2.2.2.2.2.1, ())))
def quota_Moved_l0 (s : (List UInt8) × (List UInt8) × (List (api_Quota)) × (Int) × (Int) × (List (api_Quota)) × Unit) : Option (((List (api_Quota)) × Unit) ⊕ (Unit)) := loopO (quota_Moved_b0) s
def quota_Moved (s : (List (api_Quota)) × (List UInt8) × (List UInt8) × Unit) : Option ((List (api_Quota)) × Unit) :=
 match quota_Moved_l0 (s.2.1, s.2.2.1, s.1, ((List.length s.1) : Int), (0 : Int), ([] : List (api_Quota)), ()) with
 | none => none
 | some (.inl z0) =>
  match slices_SortFunc_api_Quota_api_Quota (z0.1, ()) with
  | none => none
  | some r1 =>
   some (r1.1, ())
 | some (.inr z0) =>
  none
def ref20_Same_b0 (s : (List (api_Quota)) × (List (api_Quota)) × (Int) × Unit) : Option (((List (api_Quota)) × (List (api_Quota)) × (Int) × Unit) ⊕ (((Bool) × Unit) ⊕ (Unit))) :=
 let t0 : Bool := (decide ((s.2.2.1 : Int) < ((List.length s.1) : Int)))
 bif t0 then
  bif (decide ((0 : Int) ≤ s.2.2.1) && decide ((s.2.2.1 : Int) < (List.length s.1 : Int))) then
   let t1 : api_Quota := (List.getD s.1 (Int.toNat s.2.2.1) (([] : List UInt8), (((0 : Int), ((0 : Int), ())), ())))
   bif (decide ((0 : Int) ≤ s.2.2.1) && decide ((s.2.2.1 : Int) < (List.length s.2.1 : Int))) then
    let t2 : api_Quota := (List.getD s.2.1 (Int.toNat s.2.2.1) (([] : List UInt8), (((0 : Int), ((0 : Int), ())), ())))
    let t3 : Bool := (!(Ty.eqb tapi_Quota t1 t2))
    bif t3 then
     some (.inr (.inl (false, ())))
    else
     some (.inl (s.1, s.2.1, (IntKind.i64.wrap (s.2.2.1 + (1 : Int))), ()))
   else
    none
  else
   none
 else
  some (.inr (.inr (())))
def ref20_Same_l0 (s : (List (api_Quota)) × (List (api_Quota)) × (Int) × Unit) : Option (((Bool) × Unit) ⊕ (Unit)) := loopO (ref20_Same_b0) s
def ref20_Same (s : (List (api_Quota)) × (List (api_Quota)) × Unit) : Option ((Bool) × Unit) :=
 let t0 : Bool := (!decide ((((List.length s.1) : Int) : Int) = ((List.length s.2.1) : Int)))
 bif t0 then
  some (false, ())
 else
  match ref20_Same_l0 (s.1, s.2.1, (0 : Int), ()) with
  | none => none
  | some (.inl z1) =>
   some (z1.1, ())
  | some (.inr z1) =>
   some (true, ())
def quota_amount_right (s : (quota_amount) × Unit) : Option ((Bool) × Unit) :=
 let t0 : Int := (if (s.1.1.2.1 : Int) < s.1.1.1 then s.1.1.2.1 else s.1.1.1)
 bif (decide ((t0 : Int) ≥ (0 : Int))) then
  let t1 : Int := (if (s.1.1.1 : Int) < s.1.1.2.1 then s.1.1.2.1 else s.1.1.1)
  let t2 : Bool := (decide ((t1 : Int) ≤ (1000000000 : Int)))
  some (t2, ())
 else
  some (false, ())
def slices_BinarySearchFunc_api_Quota_api_Quota_api_Quota_b0 (s : (List (api_Quota)) × (Int) × (Int) × (Int) × (api_Quota) × Unit) : Option (((List (api_Quota)) × (Int) × (Int) × (Int) × (api_Quota) × Unit) ⊕ (((List (api_Quota)) × (Int) × (Int) × (api_Quota) × Unit) ⊕ (Unit))) :=
 bif (decide ((s.2.2.1 : Int) < s.2.2.2.1)) then
  let t0 : Int := (IntKind.u64.wrap (IntKind.i64.wrap (s.2.2.1 + s.2.2.2.1)))
  let t1 : Int := (Int.fdiv t0 (2 ^ (min (Int.toNat (1 : Int)) IntKind.u64.bits)))
  bif (decide ((0 : Int) ≤ (IntKind.i64.wrap t1)) && decide (((IntKind.i64.wrap t1) : Int) < (List.length s.1 : Int))) then
   let t2 : api_Quota := (List.getD s.1 (Int.toNat (IntKind.i64.wrap t1)) (([] : List UInt8), (((0 : Int), ((0 : Int), ())), ())))
   match quota_byPath (t2, s.2.2.2.2.1, ()) with
   | none => none
   | some r3 =>
    bif (decide ((r3.1 : Int) < (0 : Int))) then
     let t4 : Int := (IntKind.i64.wrap ((IntKind.i64.wrap t1) + (1 : Int)))
     some (.inl (s.1, s.2.1, t4, s.2.2.2.1, s.2.2.2.2.1, ()))
    else
     some (.inl (s.1, s.2.1, s.2.2.1, (IntKind.i64.wrap t1), s.2.2.2.2.1, ()))
  else
   none
 else
  some (.inr (.inl (s.1, s.2.1, s.2.2.1, s.2.2.2.2.1, ())))
def slices_BinarySearchFunc_api_Quota_api_Quota_api_Quota_l0 (s : (List (api_Quota)) × (Int) × (Int) × (Int) × (api_Quota) × Unit) : Option (((List (api_Quota)) × (Int) × (Int) × (api_Quota) × Unit) ⊕ (Unit)) := loopO (slices_BinarySearchFunc_api_Quota_api_Quota_api_Quota_b0) s
def slices_BinarySearchFunc_api_Quota_api_Quota_api_Quota (s : (List (api_Quota)) × (api_Quota) × Unit) : Option ((Int) × (Bool) × Unit) :=
 match slices_BinarySearchFunc_api_Quota_api_Quota_api_Quota_l0 (s.1, ((List.length s.1) : Int), (0 : Int), ((List.length s.1) : Int), s.2.1, ()) with
 | none => none
 | some (.inl z0) =>
  bif (decide ((z0.2.2.1 : Int) < z0.2.1)) then
   bif (decide ((0 : Int) ≤ z0.2.2.1) && decide ((z0.2.2.1 : Int) < (List.length z0.1 : Int))) then
    let t1 : api_Quota := (List.getD z0.1 (Int.toNat z0.2.2.1) (([] : List UInt8), (((0 : Int), ((0 : Int), ())), ())))
    match quota_byPath (t1, z0.2.2.2.1, ()) with
    | none => none
    | some r2 =>
     some (z0.2.2.1, (decide ((r2.1 : Int) = (0 : Int))), ())
   else
    none
  else
   some (z0.2.2.1, false, ())
 | some (.inr z0) =>
  none
def slices_Clone_api_Quota_api_Quota (s : (List (api_Quota)) × Unit) : Option ((List (api_Quota)) × Unit) := bif (decide ((List.length ([] : List (api_Quota)) + List.length s.1) * 32 ≤ roomMax)) then some (s.1, ()) else none
def slices_Delete_api_Quota_api_Quota (s : (Int) × (Int) × (List (api_Quota)) × Unit) : Option ((List (api_Quota)) × Unit) :=
 bif (decide ((0 : Int) ≤ s.1) && decide ((s.1 : Int) ≤ s.2.1) && decide ((s.2.1 : Int) ≤ ((List.length s.2.2.1) : Int)) && decide ((((List.length s.2.2.1) : Int) : Int) ≤ (List.length s.2.2.1 : Int))) then
  bif (decide ((s.1 : Int) = s.2.1)) then
   none
  else
   bif (decide (((0 : Int) : Int) ≤ s.1) && decide ((s.1 : Int) ≤ (List.length s.2.2.1 : Int))) then
    bif (decide ((0 : Int) ≤ s.2.1) && decide ((s.2.1 : Int) ≤ (List.length s.2.2.1 : Int)) && decide (((List.length s.2.2.1 : Int) : Int) ≤ (List.length s.2.2.1 : Int))) then
     let t0 : List (api_Quota) := (List.drop (Int.toNat s.2.1) (List.take (Int.toNat (List.length s.2.2.1 : Int)) s.2.2.1))
     bif (decide ((Int.toNat s.1) + List.length t0 ≤ List.length s.2.2.1)) then
      let t1 : List (api_Quota) := (List.take (Int.toNat s.1) s.2.2.1 ++ t0 ++ List.drop ((Int.toNat s.1) + List.length t0) s.2.2.1)
      let t2 : Int := ((((Int.toNat s.1) + List.length t0) - 0 : Nat) : Int)
      bif (decide ((0 : Int) ≤ t2) && decide ((t2 : Int) ≤ ((List.length s.2.2.1) : Int)) && decide ((((List.length s.2.2.1) : Int) : Int) ≤ ((List.length t1 - 0 : Nat) : Int))) then
       let t3 : List (api_Quota) := (List.take (0 + (Int.toNat t2)) t1 ++ List.replicate ((0 + (Int.toNat ((List.length s.2.2.1) : Int))) - (0 + (Int.toNat t2))) (([] : List UInt8), (((0 : Int), ((0 : Int), ())), ())) ++ List.drop ((0 + (Int.toNat t2)) + ((0 + (Int.toNat ((List.length s.2.2.1) : Int))) - (0 + (Int.toNat t2)))) t1)
       let t4 : List (api_Quota) := (List.take ((Int.toNat s.1) + List.length t0) t3)
       some (t4, ())
      else
       none
     else
      none
    else
     none
   else
    none
 else
  none
def slices_Insert_api_Quota_api_Quota (s : (Int) × (List (api_Quota)) × (List (api_Quota)) × Unit) : Option ((List (api_Quota)) × (List (api_Quota)) × Unit) := insF 32 s
def quota_Set_j1 (s : (List (api_Quota)) × (Bool) × (Int) × (Bool) × (Bool) × (api_Quota) × (List (api_Quota)) × Unit) : Option ((List (api_Quota)) × (Int) × Unit) :=
 bif s.2.2.2.2.1 then
  some (s.1, (330 : Int), ())
 else
  bif s.2.1 then
   match slices_Delete_api_Quota_api_Quota (s.2.2.1, (IntKind.i64.wrap (s.2.2.1 + (1 : Int))), s.2.2.2.2.2.2.1, ()) with
   | none => none
   | some r0 =>
    some (r0.1, (0 : Int), ())
  else
   bif s.2.2.2.1 then
    bif (decide ((0 : Int) ≤ s.2.2.1) && decide ((s.2.2.1 : Int) < (List.length s.2.2.2.2.2.2.1 : Int))) then
     let t0 : List (api_Quota) := (List.set s.2.2.2.2.2.2.1 (Int.toNat s.2.2.1) s.2.2.2.2.2.1)
     some (t0, (0 : Int), ())
    else
     none
   else
    let t0 : Bool := (decide ((((List.length s.1) : Int) : Int) ≥ (16 : Int)))
    bif t0 then
     some (s.1, (2 : Int), ())
    else
     match slices_Insert_api_Quota_api_Quota (s.2.2.1, s.2.2.2.2.2.2.1, ([s.2.2.2.2.2.1] : List (api_Quota)), ()) with
     | none => none
     | some r1 =>
      some (r1.2.1, (0 : Int), ())
def quota_Set_j0 (s : (List (api_Quota)) × (Bool) × (api_Quota) × Unit) : Option ((List (api_Quota)) × (Int) × Unit) :=
 match slices_BinarySearchFunc_api_Quota_api_Quota_api_Quota (s.1, s.2.2.1, ()) with
 | none => none
 | some r0 =>
  match slices_Clone_api_Quota_api_Quota (s.1, ()) with
  | none => none
  | some r1 =>
   bif s.2.1 then
    quota_Set_j1 (s.1, s.2.1, r0.1, r0.2.1, (!r0.2.1), s.2.2.1, r1.1, ())
   else
    quota_Set_j1 (s.1, s.2.1, r0.1, r0.2.1, false, s.2.2.1, r1.1, ())

def quota_Set (s : (List (api_Quota)) × (api_Quota) × Unit) : Option ((List (api_Quota)) × (Int) × Unit) :=
 let t0 : Bool := (Ty.eqb tapi_Use s.2.1.2.1 ((-1 : Int), ((-1 : Int), ())))
 match path_Valid (s.2.1.1, ()) with
 | none => none
 | some r1 =>
  bif (!(!r1.1)) then
   bif (!t0) then
    match quota_amount_right ((s.2.1.2.1, ()), ()) with
    | none => none
    | some r2 =>
     bif (!r2.1) then
      some (s.1, (200 : Int), ())
     else
      quota_Set_j0 (s.1, t0, s.2.1, ())
   else
    quota_Set_j0 (s.1, t0, s.2.1, ())
  else
   some (s.1, (200 : Int), ())
def quota_Valid_b0 (s : (List (api_Quota)) × (List (api_Quota)) × (Int) × (Int) × Unit) : Option (((List (api_Quota)) × (List (api_Quota)) × (Int) × (Int) × Unit) ⊕ (((Bool) × Unit) ⊕ ((List (api_Quota)) × Unit))) :=
 bif (decide ((s.2.2.2.1 : Int) < s.2.2.1)) then
  bif (decide ((0 : Int) ≤ s.2.2.2.1) && decide ((s.2.2.2.1 : Int) < (List.length s.2.1 : Int))) then
   let t0 : api_Quota := (List.getD s.2.1 (Int.toNat s.2.2.2.1) (([] : List UInt8), (((0 : Int), ((0 : Int), ())), ())))
   match path_Valid (t0.1, ()) with
   | none => none
   | some r1 =>
    bif (!(!r1.1)) then
     match quota_amount_right ((t0.2.1, ()), ()) with
     | none => none
     | some r2 =>
      bif (!(!r2.1)) then
       bif (decide ((s.2.2.2.1 : Int) > (0 : Int))) then
        let t3 : Int := (IntKind.i64.wrap (s.2.2.2.1 - (1 : Int)))
        bif (decide ((0 : Int) ≤ t3) && decide ((t3 : Int) < (List.length s.1 : Int))) then
         let t4 : api_Quota := (List.getD s.1 (Int.toNat t3) (([] : List UInt8), (((0 : Int), ((0 : Int), ())), ())))
         match quota_byPath (t4, t0, ()) with
         | none => none
         | some r5 =>
          bif (decide ((r5.1 : Int) ≥ (0 : Int))) then
           some (.inr (.inl (false, ())))
          else
           let t6 : Int := (IntKind.i64.wrap (s.2.2.2.1 + (1 : Int)))
           some (.inl (s.1, s.2.1, s.2.2.1, t6, ()))
        else
         none
       else
        let t3 : Int := (IntKind.i64.wrap (s.2.2.2.1 + (1 : Int)))
        some (.inl (s.1, s.2.1, s.2.2.1, t3, ()))
      else
       some (.inr (.inl (false, ())))
    else
     some (.inr (.inl (false, ())))
  else
   none
 else
  some (.inr (.inr (s.1, ())))
def quota_Valid_l0 (s : (List (api_Quota)) × (List (api_Quota)) × (Int) × (Int) × Unit) : Option (((Bool) × Unit) ⊕ ((List (api_Quota)) × Unit)) := loopO (quota_Valid_b0) s
def quota_Valid (s : (List (api_Quota)) × Unit) : Option ((Bool) × Unit) :=
 match quota_Valid_l0 (s.1, s.1, ((List.length s.1) : Int), (0 : Int), ()) with
 | none => none
 | some (.inl z0) =>
  some (z0.1, ())
 | some (.inr z0) =>
  let t1 : Bool := (decide ((((List.length z0.1) : Int) : Int) ≤ (16 : Int)))
  some (t1, ())
def law20_sanity_c5 (x_law20_sample : (Unit) → Option ((List (api_Pair)) × Unit)) (x_quota_Of : ((List (api_Pair)) × (List UInt8) × Unit) → Option (quota_amount)) (x_law20_q : ((List UInt8) × (Int) × (Int) × Unit) → Option ((api_Quota) × Unit)) (x_quota_Fits : ((List (api_Pair)) × (List (api_Quota)) × Unit) → Option ((Bool) × Unit)) (x_quota_Allows : ((List (api_Pair)) × (List (api_Quota)) × (List (api_Msg)) × Unit) → Option ((Bool) × Unit)) (x_quota_Moved : ((List (api_Quota)) × (List UInt8) × (List UInt8) × Unit) → Option ((List (api_Quota)) × Unit)) (x_ref20_Same : ((List (api_Quota)) × (List (api_Quota)) × Unit) → Option ((Bool) × Unit)) (x_quota_Set : ((List (api_Quota)) × (api_Quota) × Unit) → Option ((List (api_Quota)) × (Int) × Unit)) (x_quota_Valid : ((List (api_Quota)) × Unit) → Option ((Bool) × Unit)) (s : (Bool) × (Bool) × Unit) : Option (((Bool) × Unit) ⊕ (Unit)) :=
 match x_law20_q (([97, 47] : List UInt8), (1 : Int), (2 : Int), ()) with
 | none => none
 | some r0 =>
  match x_law20_q (([97, 47, 98, 47] : List UInt8), (3 : Int), (4 : Int), ()) with
  | none => none
  | some r1 =>
   match x_law20_q (([99, 47] : List UInt8), (5 : Int), (6 : Int), ()) with
   | none => none
   | some r2 =>
    match x_quota_Moved (([r0.1, r1.1, r2.1] : List (api_Quota)), ([97, 47] : List UInt8), ([99, 47] : List UInt8), ()) with
    | none => none
    | some r3 =>
     match x_law20_q (([99, 47] : List UInt8), (1 : Int), (2 : Int), ()) with
     | none => none
     | some r4 =>
      match x_law20_q (([99, 47, 98, 47] : List UInt8), (3 : Int), (4 : Int), ()) with
      | none => none
      | some r5 =>
       match x_ref20_Same (r3.1, ([r4.1, r5.1] : List (api_Quota)), ()) with
       | none => none
       | some r6 =>
        match x_law20_q (([97, 47] : List UInt8), (-1 : Int), (-1 : Int), ()) with
        | none => none
        | some r7 =>
         match x_quota_Set (([] : List (api_Quota)), r7.1, ()) with
         | none => none
         | some r8 =>
          match x_law20_q (([97, 47] : List UInt8), (5 : Int), (-1 : Int), ()) with
          | none => none
          | some r9 =>
           match x_quota_Set (([] : List (api_Quota)), r9.1, ()) with
           | none => none
           | some r10 =>
            match x_law20_q (([97, 47] : List UInt8), (1 : Int), (1 : Int), ()) with
            | none => none
            | some r11 =>
             match x_law20_q (([] : List UInt8), (7 : Int), (8 : Int), ()) with
             | none => none
             | some r12 =>
              match x_quota_Set (([r11.1] : List (api_Quota)), r12.1, ()) with
              | none => none
              | some r13 =>
               bif s.1 then
                bif s.2.1 then
                 bif r6.1 then
                  bif (decide ((r8.2.1 : Int) = (330 : Int))) then
                   bif (decide ((r10.2.1 : Int) = (200 : Int))) then
                    bif (decide ((r13.2.1 : Int) = (0 : Int))) then
                     match x_law20_q (([] : List UInt8), (7 : Int), (8 : Int), ()) with
                     | none => none
                     | some r14 =>
                      match x_law20_q (([97, 47] : List UInt8), (1 : Int), (1 : Int), ()) with
                      | none => none
                      | some r15 =>
                       match x_ref20_Same (r13.1, ([r14.1, r15.1] : List (api_Quota)), ()) with
                       | none => none
                       | some r16 =>
                        bif r16.1 then
                         match x_quota_Valid (r13.1, ()) with
                         | none => none
                         | some r17 =>
                          bif r17.1 then
                           match x_law20_q (([97] : List UInt8), (1 : Int), (1 : Int), ()) with
                           | none => none
                           | some r18 =>
                            match x_quota_Valid (([r18.1] : List (api_Quota)), ()) with
                            | none => none
                            | some r19 =>
                             some (.inl ((!r19.1), ()))
                          else
                           some (.inl (false, ()))
                        else
                         some (.inl (false, ()))
                    else
                     some (.inl (false, ()))
                   else
                    some (.inl (false, ()))
                  else
                   some (.inl (false, ()))
                 else
                  some (.inl (false, ()))
                else
                 some (.inl (false, ()))
               else
                some (.inl (false, ()))
def law20_sanity_c4 (x_law20_sample : (Unit) → Option ((List (api_Pair)) × Unit)) (x_quota_Of : ((List (api_Pair)) × (List UInt8) × Unit) → Option (quota_amount)) (x_law20_q : ((List UInt8) × (Int) × (Int) × Unit) → Option ((api_Quota) × Unit)) (x_quota_Fits : ((List (api_Pair)) × (List (api_Quota)) × Unit) → Option ((Bool) × Unit)) (x_quota_Allows : ((List (api_Pair)) × (List (api_Quota)) × (List (api_Msg)) × Unit) → Option ((Bool) × Unit)) (x_quota_Moved : ((List (api_Quota)) × (List UInt8) × (List UInt8) × Unit) → Option ((List (api_Quota)) × Unit)) (x_ref20_Same : ((List (api_Quota)) × (List (api_Quota)) × Unit) → Option ((Bool) × Unit)) (x_quota_Set : ((List (api_Quota)) × (api_Quota) × Unit) → Option ((List (api_Quota)) × (Int) × Unit)) (x_quota_Valid : ((List (api_Quota)) × Unit) → Option ((Bool) × Unit)) (s : (Bool) × (List (api_Pair)) × (List (api_Msg)) × Unit) : Option (((Bool) × Unit) ⊕ (Unit)) :=
 match x_law20_q (([97, 47] : List UInt8), (2 : Int), (2 : Int), ()) with
 | none => none
 | some r0 =>
  match x_quota_Fits (s.2.1, ([r0.1] : List (api_Quota)), ()) with
  | none => none
  | some r1 =>
   bif (!r1.1) then
    match x_law20_q (([97, 47] : List UInt8), (2 : Int), (3 : Int), ()) with
    | none => none
    | some r2 =>
     match x_quota_Fits (s.2.1, ([r2.1] : List (api_Quota)), ()) with
     | none => none
     | some r3 =>
      bif r3.1 then
       match x_law20_q (([99, 47] : List UInt8), (1 : Int), (10 : Int), ()) with
       | none => none
       | some r4 =>
        match x_quota_Allows (s.2.1, ([r4.1] : List (api_Quota)), s.2.2.1, ()) with
        | none => none
        | some r5 =>
         bif (!r5.1) then
          match x_law20_q (([99, 47] : List UInt8), (2 : Int), (3 : Int), ()) with
          | none => none
          | some r6 =>
           match x_quota_Allows (s.2.1, ([r6.1] : List (api_Quota)), s.2.2.1, ()) with
           | none => none
           | some r7 =>
            match law20_sanity_c5 x_law20_sample x_quota_Of x_law20_q x_quota_Fits x_quota_Allows x_quota_Moved x_ref20_Same x_quota_Set x_quota_Valid (s.1, r7.1, ()) with
            | none => none
            | some (.inl z8) =>
             some (.inl (z8.1, ()))
            | some (.inr z8) =>
             none
         else
          match law20_sanity_c5 x_law20_sample x_quota_Of x_law20_q x_quota_Fits x_quota_Allows x_quota_Moved x_ref20_Same x_quota_Set x_quota_Valid (s.1, false, ()) with
          | none => none
          | some (.inl z6) =>
           some (.inl (z6.1, ()))
          | some (.inr z6) =>
           none
      else
       match law20_sanity_c5 x_law20_sample x_quota_Of x_law20_q x_quota_Fits x_quota_Allows x_quota_Moved x_ref20_Same x_quota_Set x_quota_Valid (s.1, false, ()) with
       | none => none
       | some (.inl z4) =>
        some (.inl (z4.1, ()))
       | some (.inr z4) =>
        none
   else
    match law20_sanity_c5 x_law20_sample x_quota_Of x_law20_q x_quota_Fits x_quota_Allows x_quota_Moved x_ref20_Same x_quota_Set x_quota_Valid (s.1, false, ()) with
    | none => none
    | some (.inl z2) =>
     some (.inl (z2.1, ()))
    | some (.inr z2) =>
     none
def law20_sanity_step (x_law20_sample : (Unit) → Option ((List (api_Pair)) × Unit)) (x_quota_Of : ((List (api_Pair)) × (List UInt8) × Unit) → Option (quota_amount)) (x_law20_q : ((List UInt8) × (Int) × (Int) × Unit) → Option ((api_Quota) × Unit)) (x_quota_Fits : ((List (api_Pair)) × (List (api_Quota)) × Unit) → Option ((Bool) × Unit)) (x_quota_Allows : ((List (api_Pair)) × (List (api_Quota)) × (List (api_Msg)) × Unit) → Option ((Bool) × Unit)) (x_quota_Moved : ((List (api_Quota)) × (List UInt8) × (List UInt8) × Unit) → Option ((List (api_Quota)) × Unit)) (x_ref20_Same : ((List (api_Quota)) × (List (api_Quota)) × Unit) → Option ((Bool) × Unit)) (x_quota_Set : ((List (api_Quota)) × (api_Quota) × Unit) → Option ((List (api_Quota)) × (Int) × Unit)) (x_quota_Valid : ((List (api_Quota)) × Unit) → Option ((Bool) × Unit)) (s : Unit) : Option ((Bool) × Unit) :=
 match x_law20_sample (()) with
 | none => none
 | some r0 =>
  match x_quota_Of (r0.1, ([97, 47] : List UInt8), ()) with
  | none => none
  | some r1 =>
   let t2 : Bool := (Ty.eqb tapi_Use r1.1 ((2 : Int), ((3 : Int), ())))
   bif t2 then
    match x_quota_Of (r0.1, ([97, 47, 98, 47] : List UInt8), ()) with
    | none => none
    | some r3 =>
     let t4 : Bool := (Ty.eqb tapi_Use r3.1 ((1 : Int), ((0 : Int), ())))
     bif t4 then
      match x_quota_Of (r0.1, ([] : List UInt8), ()) with
      | none => none
      | some r5 =>
       let t6 : Bool := (Ty.eqb tapi_Use r5.1 ((3 : Int), ((3 : Int), ())))
       bif t6 then
        match x_quota_Of (r0.1, ([100, 47] : List UInt8), ()) with
        | none => none
        | some r7 =>
         let t8 : Bool := (Ty.eqb tapi_Use r7.1 ((0 : Int), ((0 : Int), ())))
         match law20_sanity_c4 x_law20_sample x_quota_Of x_law20_q x_quota_Fits x_quota_Allows x_quota_Moved x_ref20_Same x_quota_Set x_quota_Valid (t8, r0.1, ([((5 : Int), (([] : List UInt8), (([] : List UInt8), ((([] : List UInt8), (([] : List UInt8), ())), (([97, 47] : List UInt8), (([99, 47] : List UInt8), ((0 : Int), ())))))))] : List (api_Msg)), ()) with
         | none => none
         | some (.inl z9) =>
          some (z9.1, ())
         | some (.inr z9) =>
          none
       else
        match law20_sanity_c4 x_law20_sample x_quota_Of x_law20_q x_quota_Fits x_quota_Allows x_quota_Moved x_ref20_Same x_quota_Set x_quota_Valid (false, r0.1, ([((5 : Int), (([] : List UInt8), (([] : List UInt8), ((([] : List UInt8), (([] : List UInt8), ())), (([97, 47] : List UInt8), (([99, 47] : List UInt8), ((0 : Int), ())))))))] : List (api_Msg)), ()) with
        | none => none
        | some (.inl z7) =>
         some (z7.1, ())
        | some (.inr z7) =>
         none
     else
      match law20_sanity_c4 x_law20_sample x_quota_Of x_law20_q x_quota_Fits x_quota_Allows x_quota_Moved x_ref20_Same x_quota_Set x_quota_Valid (false, r0.1, ([((5 : Int), (([] : List UInt8), (([] : List UInt8), ((([] : List UInt8), (([] : List UInt8), ())), (([97, 47] : List UInt8), (([99, 47] : List UInt8), ((0 : Int), ())))))))] : List (api_Msg)), ()) with
      | none => none
      | some (.inl z5) =>
       some (z5.1, ())
      | some (.inr z5) =>
       none
   else
    match law20_sanity_c4 x_law20_sample x_quota_Of x_law20_q x_quota_Fits x_quota_Allows x_quota_Moved x_ref20_Same x_quota_Set x_quota_Valid (false, r0.1, ([((5 : Int), (([] : List UInt8), (([] : List UInt8), ((([] : List UInt8), (([] : List UInt8), ())), (([97, 47] : List UInt8), (([99, 47] : List UInt8), ((0 : Int), ())))))))] : List (api_Msg)), ()) with
    | none => none
    | some (.inl z3) =>
     some (z3.1, ())
    | some (.inr z3) =>
     none
def law20_sanity (s : Unit) : Option ((Bool) × Unit) := law20_sanity_step law20_sample quota_Of law20_q quota_Fits quota_Allows quota_Moved ref20_Same quota_Set quota_Valid s
def ref05_Path (s : (Int) × Unit) : Option ((List UInt8) × Unit) :=
 bif (decide ((0 : Int) ≤ (Int.tmod s.1 (5 : Int))) && decide (((Int.tmod s.1 (5 : Int)) : Int) < (List.length ([([97, 47] : List UInt8), ([98, 47] : List UInt8), ([97, 47, 98, 47] : List UInt8), ([99, 47] : List UInt8), ([100, 47] : List UInt8)] : List (List UInt8)) : Int))) then
  let t0 : List UInt8 := (List.getD ([([97, 47] : List UInt8), ([98, 47] : List UInt8), ([97, 47, 98, 47] : List UInt8), ([99, 47] : List UInt8), ([100, 47] : List UInt8)] : List (List UInt8)) (Int.toNat (Int.tmod s.1 (5 : Int))) ([] : List UInt8))
  some (t0, ())
 else
  none
def ref20_Path (s : (Int) × Unit) : Option ((List UInt8) × Unit) :=
 let t0 : Bool := (decide (((Int.tmod s.1 (6 : Int)) : Int) = (5 : Int)))
 bif t0 then
  some (([] : List UInt8), ())
 else
  match ref05_Path ((Int.tmod s.1 (6 : Int)), ()) with
  | none => none
  | some r1 =>
   some (r1.1, ())
def ref20_Quota (s : ((Int) × (Int) × (Int) × Unit) × Unit) : Option ((api_Quota) × Unit) :=
 match ref20_Path (s.1.1, ()) with
 | none => none
 | some r0 =>
  let t1 : Int := (IntKind.i64.wrap (Int.tmod s.1.2.1 (8 : Int)))
  let t2 : Int := (IntKind.i64.wrap (Int.tmod s.1.2.2.1 (32 : Int)))
  some ((r0.1, ((t1, (t2, ())), ())), ())
def ref20_Without_b0 (s : (List (api_Quota)) × (List UInt8) × (Int) × (List (api_Quota)) × Unit) : Option (((List (api_Quota)) × (List UInt8) × (Int) × (List (api_Quota)) × Unit) ⊕ (((List (api_Quota)) × Unit) ⊕ (Unit))) :=
 let t0 : Bool := (decide ((s.2.2.1 : Int) < ((List.length s.1) : Int)))
 bif t0 then
  bif (decide ((0 : Int) ≤ s.2.2.1) && decide ((s.2.2.1 : Int) < (List.length s.1 : Int))) then
   let t1 : api_Quota := (List.getD s.1 (Int.toNat s.2.2.1) (([] : List UInt8), (((0 : Int), ((0 : Int), ())), ())))
   bif (!decide ((t1.1 : List UInt8) = s.2.1)) then
    bif (decide ((0 : Int) ≤ s.2.2.1) && decide ((s.2.2.1 : Int) < (List.length s.1 : Int))) then
     let t2 : api_Quota := (List.getD s.1 (Int.toNat s.2.2.1) (([] : List UInt8), (((0 : Int), ((0 : Int), ())), ())))
     bif (decide ((List.length s.2.2.2.1 + List.length ([t2] : List (api_Quota))) * 32 ≤ roomMax)) then
      let t3 : List (api_Quota) := (s.2.2.2.1 ++ ([t2] : List (api_Quota)))
      some (.inl (s.1, s.2.1, (IntKind.i64.wrap (s.2.2.1 + (1 : Int))), t3, ()))
     else
      none
    else
     none
   else
    some (.inl (s.1, s.2.1, (IntKind.i64.wrap (s.2.2.1 + (1 : Int))), s.2.2.2.1, ()))
  else
   none
 else
  some (.inr (.inl (s.2.2.2.1, ())))
def ref20_Without_l0 (s : (List (api_Quota)) × (List UInt8) × (Int) × (List (api_Quota)) × Unit) : Option (((List (api_Quota)) × Unit) ⊕ (Unit)) := loopO (ref20_Without_b0) s
def ref20_Without (s : (List (api_Quota)) × (List UInt8) × Unit) : Option ((List (api_Quota)) × Unit) :=
 match ref20_Without_l0 (s.1, s.2.1, (0 : Int), ([] : List (api_Quota)), ()) with
 | none => none
 | some (.inl z0) =>
  some (z0.1, ())
 | some (.inr z0) =>
  none
def ref20_Insert_b0_j0 (s : (List (api_Quota)) × (Bool) × (Int) × (api_Quota) × (List (api_Quota)) × Unit) : Option (((List (api_Quota)) × (Bool) × (Int) × (api_Quota) × (List (api_Quota)) × Unit) ⊕ (((Bool) × (api_Quota) × (List (api_Quota)) × Unit) ⊕ (Unit))) :=
 bif (decide ((0 : Int) ≤ s.2.2.1) && decide ((s.2.2.1 : Int) < (List.length s.1 : Int))) then
  let t0 : api_Quota := (List.getD s.1 (Int.toNat s.2.2.1) (([] : List UInt8), (((0 : Int), ((0 : Int), ())), ())))
  bif (decide ((List.length s.2.2.2.2.1 + List.length ([t0] : List (api_Quota))) * 32 ≤ roomMax)) then
   let t1 : List (api_Quota) := (s.2.2.2.2.1 ++ ([t0] : List (api_Quota)))
   some (.inl (s.1, s.2.1, (IntKind.i64.wrap (s.2.2.1 + (1 : Int))), s.2.2.2.1, t1, ()))
  else
   none
 else
  none
def ref20_Insert_b0_j1 (s : (List (api_Quota)) × (Bool) × (Int) × (Bool) × (api_Quota) × (List (api_Quota)) × Unit) : Option (((List (api_Quota)) × (Bool) × (Int) × (api_Quota) × (List (api_Quota)) × Unit) ⊕ (((Bool) × (api_Quota) × (List (api_Quota)) × Unit) ⊕ (Unit))) :=
 bif s.2.2.2.1 then
  bif (decide ((List.length s.2.2.2.2.2.1 + List.length ([s.2.2.2.2.1] : List (api_Quota))) * 32 ≤ roomMax)) then
   let t0 : List (api_Quota) := (s.2.2.2.2.2.1 ++ ([s.2.2.2.2.1] : List (api_Quota)))
   ref20_Insert_b0_j0 (s.1, true, s.2.2.1, s.2.2.2.2.1, t0, ())
  else
   none
 else
  ref20_Insert_b0_j0 (s.1, s.2.1, s.2.2.1, s.2.2.2.2.1, s.2.2.2.2.2.1, ())

def ref20_Insert_b0 (s : (List (api_Quota)) × (Bool) × (Int) × (api_Quota) × (List (api_Quota)) × Unit) : Option (((List (api_Quota)) × (Bool) × (Int) × (api_Quota) × (List (api_Quota)) × Unit) ⊕ (((Bool) × (api_Quota) × (List (api_Quota)) × Unit) ⊕ (Unit))) :=
 let t0 : Bool := (decide ((s.2.2.1 : Int) < ((List.length s.1) : Int)))
 bif t0 then
  bif (!s.2.1) then
   bif (decide ((0 : Int) ≤ s.2.2.1) && decide ((s.2.2.1 : Int) < (List.length s.1 : Int))) then
    let t1 : api_Quota := (List.getD s.1 (Int.toNat s.2.2.1) (([] : List UInt8), (((0 : Int), ((0 : Int), ())), ())))
    ref20_Insert_b0_j1 (s.1, s.2.1, s.2.2.1, (Op.bytesLess s.2.2.2.1.1 t1.1), s.2.2.2.1, s.2.2.2.2.1, ())
   else
    none
  else
   ref20_Insert_b0_j1 (s.1, s.2.1, s.2.2.1, false, s.2.2.2.1, s.2.2.2.2.1, ())
 else
  some (.inr (.inl (s.2.1, s.2.2.2.1, s.2.2.2.2.1, ())))
def ref20_Insert_l0 (s : (List (api_Quota)) × (Bool) × (Int) × (api_Quota) × (List (api_Quota)) × Unit) : Option (((Bool) × (api_Quota) × (List (api_Quota)) × Unit) ⊕ (Unit)) := loopO (ref20_Insert_b0) s
def ref20_Insert (s : (List (api_Quota)) × (api_Quota) × Unit) : Option ((List (api_Quota)) × Unit) :=
 match ref20_Insert_l0 (s.1, false, (0 : Int), s.2.1, ([] : List (api_Quota)), ()) with
 | none => none
 | some (.inl z0) =>
  bif (!z0.1) then
   bif (decide ((List.length z0.2.2.1 + List.length ([z0.2.1] : List (api_Quota))) * 32 ≤ roomMax)) then
    let t1 : List (api_Quota) := (z0.2.2.1 ++ ([z0.2.1] : List (api_Quota)))
    some (t1, ())
   else
    none
  else
   some (z0.2.2.1, ())
 | some (.inr z0) =>
  none
def ref20_Made_b0_j0 (s : (List ((Int) × (Int) × (Int) × Unit)) × (Int) × (Bool) × (List (api_Quota)) × Unit) : Option (((List ((Int) × (Int) × (Int) × Unit)) × (Int) × (List (api_Quota)) × Unit) ⊕ (((List (api_Quota)) × Unit) ⊕ (Unit))) :=
 bif s.2.2.1 then
  bif (decide ((0 : Int) ≤ s.2.1) && decide ((s.2.1 : Int) < (List.length s.1 : Int))) then
   let t0 : (Int) × (Int) × (Int) × Unit := (List.getD s.1 (Int.toNat s.2.1) ((0 : Int), ((0 : Int), ((0 : Int), ()))))
   match ref20_Quota (t0, ()) with
   | none => none
   | some r1 =>
    match ref20_Without (s.2.2.2.1, r1.1.1, ()) with
    | none => none
    | some r2 =>
     match ref20_Insert (r2.1, r1.1, ()) with
     | none => none
     | some r3 =>
      some (.inl (s.1, (IntKind.i64.wrap (s.2.1 + (1 : Int))), r3.1, ()))
  else
   none
 else
  some (.inr (.inl (s.2.2.2.1, ())))

def ref20_Made_b0 (s : (List ((Int) × (Int) × (Int) × Unit)) × (Int) × (List (api_Quota)) × Unit) : Option (((List ((Int) × (Int) × (Int) × Unit)) × (Int) × (List (api_Quota)) × Unit) ⊕ (((List (api_Quota)) × Unit) ⊕ (Unit))) :=
 let t0 : Bool := (decide ((s.2.1 : Int) < ((List.length s.1) : Int)))
 bif t0 then
  ref20_Made_b0_j0 (s.1, s.2.1, (decide ((s.2.1 : Int) < (8 : Int))), s.2.2.1, ())
 else
  ref20_Made_b0_j0 (s.1, s.2.1, false, s.2.2.1, ())
def ref20_Made_l0 (s : (List ((Int) × (Int) × (Int) × Unit)) × (Int) × (List (api_Quota)) × Unit) : Option (((List (api_Quota)) × Unit) ⊕ (Unit)) := loopO (ref20_Made_b0) s
def ref20_Made (s : (List ((Int) × (Int) × (Int) × Unit)) × Unit) : Option ((List (api_Quota)) × Unit) :=
 match ref20_Made_l0 (s.1, (0 : Int), ([] : List (api_Quota)), ()) with
 | none => none
 | some (.inl z0) =>
  some (z0.1, ())
 | some (.inr z0) =>
  none
def ref01_Names_b0 (s : (List UInt8) × (List UInt8) × (Int) × (List (List UInt8)) × Unit) : Option (((List UInt8) × (List UInt8) × (Int) × (List (List UInt8)) × Unit) ⊕ (((List UInt8) × (List (List UInt8)) × Unit) ⊕ (Unit))) :=
 let t0 : Bool := (decide ((s.2.2.1 : Int) < ((List.length s.1) : Int)))
 bif t0 then
  bif (decide ((0 : Int) ≤ s.2.2.1) && decide ((s.2.2.1 : Int) < (List.length s.1 : Int))) then
   let t1 : Int := ((List.getD s.1 (Int.toNat s.2.2.1) 0).toNat : Int)
   bif (decide ((t1 : Int) = (47 : Int))) then
    bif (decide ((List.length s.2.2.2.1 + List.length ([s.2.1] : List (List UInt8))) * 16 ≤ roomMax)) then
     let t2 : List (List UInt8) := (s.2.2.2.1 ++ ([s.2.1] : List (List UInt8)))
     some (.inl (s.1, ([] : List UInt8), (IntKind.i64.wrap (s.2.2.1 + (1 : Int))), t2, ()))
    else
     none
   else
    bif (decide ((0 : Int) ≤ s.2.2.1) && decide ((s.2.2.1 : Int) ≤ (IntKind.i64.wrap (s.2.2.1 + (1 : Int)))) && decide (((IntKind.i64.wrap (s.2.2.1 + (1 : Int))) : Int) ≤ (List.length s.1 : Int))) then
     let t2 : List UInt8 := (List.drop (Int.toNat s.2.2.1) (List.take (Int.toNat (IntKind.i64.wrap (s.2.2.1 + (1 : Int)))) s.1))
     bif (decide (List.length s.2.1 + List.length t2 ≤ roomMax)) then
      some (.inl (s.1, (s.2.1 ++ t2), (IntKind.i64.wrap (s.2.2.1 + (1 : Int))), s.2.2.2.1, ()))
     else
      none
    else
     none
  else
   none
 else
  some (.inr (.inl (s.2.1, s.2.2.2.1, ())))
def ref01_Names_l0 (s : (List UInt8) × (List UInt8) × (Int) × (List (List UInt8)) × Unit) : Option (((List UInt8) × (List (List UInt8)) × Unit) ⊕ (Unit)) := loopO (ref01_Names_b0) s
def ref01_Names (s : (List UInt8) × Unit) : Option ((Bool) × (List (List UInt8)) × Unit) :=
 match ref01_Names_l0 (s.1, ([] : List UInt8), (0 : Int), ([] : List (List UInt8)), ()) with
 | none => none
 | some (.inl z0) =>
  let t1 : Bool := (decide ((z0.1 : List UInt8) = ([] : List UInt8)))
  some (t1, z0.2.1, ())
 | some (.inr z0) =>
  none
def ref01_Name_b0 (s : runtime_errorAddressString) : Option ((runtime_errorAddressString) ⊕ (((Bool) × Unit) ⊕ (Unit))) :=
 let t0 : Bool := (decide ((s.2.1 : Int) < ((List.length s.1) : Int)))
 bif t0 then
  bif (decide ((0 : Int) ≤ s.2.1) && decide ((s.2.1 : Int) < (List.length s.1 : Int))) then
   let t1 : Int := ((List.getD s.1 (Int.toNat s.2.1) 0).toNat : Int)
   bif (!(decide ((t1 : Int) < (33 : Int)))) then
    bif (decide ((0 : Int) ≤ s.2.1) && decide ((s.2.1 : Int) < (List.length s.1 : Int))) then
     let t2 : Int := ((List.getD s.1 (Int.toNat s.2.1) 0).toNat : Int)
     bif (!(decide ((t2 : Int) > (126 : Int)))) then
      bif (decide ((0 : Int) ≤ s.2.1) && decide ((s.2.1 : Int) < (List.length s.1 : Int))) then
       let t3 : Int := ((List.getD s.1 (Int.toNat s.2.1) 0).toNat : Int)
       bif (decide ((t3 : Int) = (47 : Int))) then
        some (.inr (.inl (false, ())))
       else
        some (.inl (s.1, (IntKind.i64.wrap (s.2.1 + (1 : Int))), ()))
      else
       none
     else
      some (.inr (.inl (false, ())))
    else
     none
   else
    some (.inr (.inl (false, ())))
  else
   none
 else
  some (.inr (.inr (())))
def ref01_Name_l0 (s : runtime_errorAddressString) : Option (((Bool) × Unit) ⊕ (Unit)) := loopO (ref01_Name_b0) s
def ref01_Name (s : (List UInt8) × Unit) : Option ((Bool) × Unit) :=
 let t0 : Bool := (decide ((((List.length s.1) : Int) : Int) < (1 : Int)))
 bif (!t0) then
  let t1 : Bool := (decide ((((List.length s.1) : Int) : Int) > (12 : Int)))
  bif (!t1) then
   let t2 : Bool := (decide ((s.1 : List UInt8) = ([46] : List UInt8)))
   bif (!t2) then
    let t3 : Bool := (decide ((s.1 : List UInt8) = ([46, 46] : List UInt8)))
    bif t3 then
     some (false, ())
    else
     match ref01_Name_l0 (s.1, (0 : Int), ()) with
     | none => none
     | some (.inl z4) =>
      some (z4.1, ())
     | some (.inr z4) =>
      some (true, ())
   else
    some (false, ())
  else
   some (false, ())
 else
  some (false, ())
def ref01_Valid_b0 (s : (Bool) × (Int) × (List (List UInt8)) × Unit) : Option (((Bool) × (Int) × (List (List UInt8)) × Unit) ⊕ (((Bool) × Unit) ⊕ ((Bool) × Unit))) :=
 let t0 : Bool := (decide ((s.2.1 : Int) < ((List.length s.2.2.1) : Int)))
 bif t0 then
  bif (decide ((0 : Int) ≤ s.2.1) && decide ((s.2.1 : Int) < (List.length s.2.2.1 : Int))) then
   let t1 : List UInt8 := (List.getD s.2.2.1 (Int.toNat s.2.1) ([] : List UInt8))
   match ref01_Name (t1, ()) with
   | none => none
   | some r2 =>
    bif (!r2.1) then
     some (.inr (.inl (false, ())))
    else
     some (.inl (s.1, (IntKind.i64.wrap (s.2.1 + (1 : Int))), s.2.2.1, ()))
  else
   none
 else
  some (.inr (.inr (s.1, ())))
def ref01_Valid_l0 (s : (Bool) × (Int) × (List (List UInt8)) × Unit) : Option (((Bool) × Unit) ⊕ ((Bool) × Unit)) := loopO (ref01_Valid_b0) s
def ref01_Valid (s : (List UInt8) × Unit) : Option ((Bool) × Unit) :=
 match ref01_Names (s.1, ()) with
 | none => none
 | some r0 =>
  match ref01_Valid_l0 (r0.1, (0 : Int), r0.2.1, ()) with
  | none => none
  | some (.inl z1) =>
   some (z1.1, ())
  | some (.inr z1) =>
   some (z1.1, ())
def ref20_in (s : (Int) × Unit) : Option ((Bool) × Unit) :=
 bif (decide ((s.1 : Int) ≥ (0 : Int))) then
  let t0 : Bool := (decide ((s.1 : Int) ≤ (1000000000 : Int)))
  some (t0, ())
 else
  some (false, ())
def ref20_right (s : (api_Quota) × Unit) : Option ((Bool) × Unit) :=
 match ref01_Valid (s.1.1, ()) with
 | none => none
 | some r0 =>
  bif r0.1 then
   match ref20_in (s.1.2.1.1, ()) with
   | none => none
   | some r1 =>
    bif r1.1 then
     match ref20_in (s.1.2.1.2.1, ()) with
     | none => none
     | some r2 =>
      some (r2.1, ())
    else
     some (false, ())
  else
   some (false, ())
def ref20_Valid_b0 (s : (List (api_Quota)) × (Int) × Unit) : Option (((List (api_Quota)) × (Int) × Unit) ⊕ (((Bool) × Unit) ⊕ ((List (api_Quota)) × Unit))) :=
 let t0 : Bool := (decide ((s.2.1 : Int) < ((List.length s.1) : Int)))
 bif t0 then
  bif (decide ((0 : Int) ≤ s.2.1) && decide ((s.2.1 : Int) < (List.length s.1 : Int))) then
   let t1 : api_Quota := (List.getD s.1 (Int.toNat s.2.1) (([] : List UInt8), (((0 : Int), ((0 : Int), ())), ())))
   match ref20_right (t1, ()) with
   | none => none
   | some r2 =>
    bif (!(!r2.1)) then
     bif (decide ((s.2.1 : Int) > (0 : Int))) then
      bif (decide ((0 : Int) ≤ (IntKind.i64.wrap (s.2.1 - (1 : Int)))) && decide (((IntKind.i64.wrap (s.2.1 - (1 : Int))) : Int) < (List.length s.1 : Int))) then
       let t3 : api_Quota := (List.getD s.1 (Int.toNat (IntKind.i64.wrap (s.2.1 - (1 : Int)))) (([] : List UInt8), (((0 : Int), ((0 : Int), ())), ())))
       bif (decide ((0 : Int) ≤ s.2.1) && decide ((s.2.1 : Int) < (List.length s.1 : Int))) then
        let t4 : api_Quota := (List.getD s.1 (Int.toNat s.2.1) (([] : List UInt8), (((0 : Int), ((0 : Int), ())), ())))
        bif (!(Op.bytesLess t3.1 t4.1)) then
         some (.inr (.inl (false, ())))
        else
         some (.inl (s.1, (IntKind.i64.wrap (s.2.1 + (1 : Int))), ()))
       else
        none
      else
       none
     else
      some (.inl (s.1, (IntKind.i64.wrap (s.2.1 + (1 : Int))), ()))
    else
     some (.inr (.inl (false, ())))
  else
   none
 else
  some (.inr (.inr (s.1, ())))
def ref20_Valid_l0 (s : (List (api_Quota)) × (Int) × Unit) : Option (((Bool) × Unit) ⊕ ((List (api_Quota)) × Unit)) := loopO (ref20_Valid_b0) s
def ref20_Valid (s : (List (api_Quota)) × Unit) : Option ((Bool) × Unit) :=
 match ref20_Valid_l0 (s.1, (0 : Int), ()) with
 | none => none
 | some (.inl z0) =>
  some (z0.1, ())
 | some (.inr z0) =>
  let t1 : Bool := (decide ((((List.length z0.1) : Int) : Int) ≤ (16 : Int)))
  some (t1, ())
def ref20_Set_j1 (s : (List (api_Quota)) × (Bool) × (api_Quota) × (List (api_Quota)) × Unit) : Option ((List (api_Quota)) × (Int) × Unit) :=
 bif s.2.1 then
  some (s.2.2.2.1, (0 : Int), ())
 else
  let t0 : Bool := (decide ((((List.length s.2.2.2.1) : Int) : Int) ≥ (16 : Int)))
  bif t0 then
   some (s.1, (2 : Int), ())
  else
   match ref20_Insert (s.2.2.2.1, s.2.2.1, ()) with
   | none => none
   | some r1 =>
    some (r1.1, (0 : Int), ())
def ref20_Set_j0 (s : (List (api_Quota)) × (Bool) × (api_Quota) × (List (api_Quota)) × Unit) : Option ((List (api_Quota)) × (Int) × Unit) :=
 bif s.2.1 then
  let t0 : Bool := (decide ((((List.length s.2.2.2.1) : Int) : Int) = ((List.length s.1) : Int)))
  bif t0 then
   some (s.1, (330 : Int), ())
  else
   ref20_Set_j1 (s.1, s.2.1, s.2.2.1, s.2.2.2.1, ())
 else
  ref20_Set_j1 (s.1, s.2.1, s.2.2.1, s.2.2.2.1, ())

def ref20_Set (s : (List (api_Quota)) × (api_Quota) × Unit) : Option ((List (api_Quota)) × (Int) × Unit) :=
 match ref20_Without (s.1, s.2.1.1, ()) with
 | none => none
 | some r0 =>
  let t1 : Bool := (Ty.eqb tapi_Use s.2.1.2.1 ((-1 : Int), ((-1 : Int), ())))
  match ref01_Valid (s.2.1.1, ()) with
  | none => none
  | some r2 =>
   bif (!(!r2.1)) then
    bif (!t1) then
     match ref20_right (s.2.1, ()) with
     | none => none
     | some r3 =>
      bif (!r3.1) then
       some (s.1, (200 : Int), ())
      else
       ref20_Set_j0 (s.1, t1, s.2.1, r0.1, ())
    else
     ref20_Set_j0 (s.1, t1, s.2.1, r0.1, ())
   else
    some (s.1, (200 : Int), ())
def law20_QuotaValid (s : (List (api_Quota)) × (List ((Int) × (Int) × (Int) × Unit)) × (api_Quota) × Unit) : Option ((Bool) × Unit) :=
 match law20_sanity (()) with
 | none => none
 | some r0 =>
  let t1 : Bool := (decide ((((List.length s.1) : Int) : Int) > (20 : Int)))
  bif t1 then
   some (r0.1, ())
  else
   match ref20_Made (s.2.1, ()) with
   | none => none
   | some r2 =>
    match quota_Valid (s.1, ()) with
    | none => none
    | some r3 =>
     match ref20_Valid (s.1, ()) with
     | none => none
     | some r4 =>
      bif (!(!(r3.1 == r4.1))) then
       match quota_Valid (r2.1, ()) with
       | none => none
       | some r5 =>
        bif (!r5.1) then
         some (false, ())
        else
         match quota_Set (r2.1, s.2.2.1, ()) with
         | none => none
         | some r6 =>
          match ref20_Set (r2.1, s.2.2.1, ()) with
          | none => none
          | some r7 =>
           let t8 : Bool := (decide ((((List.length r2.1) : Int) : Int) > (0 : Int)))
           bif t8 then
            bif (decide ((List.length ([] : List (api_Quota)) + List.length r2.1) * 32 ≤ roomMax)) then
             let t9 : List (api_Quota) := (([] : List (api_Quota)) ++ r2.1)
             let t10 : Int := (IntKind.i64.wrap (Int.tdiv ((List.length t9) : Int) (2 : Int)))
             bif (decide ((0 : Int) ≤ t10) && decide ((t10 : Int) < (List.length t9 : Int))) then
              let t11 : List (api_Quota) := (List.set t9 (Int.toNat t10) ((List.getD t9 (Int.toNat t10) (([] : List UInt8), (((0 : Int), ((0 : Int), ())), ()))).1, (s.2.2.1.2.1, (List.getD t9 (Int.toNat t10) (([] : List UInt8), (((0 : Int), ((0 : Int), ())), ()))).2.2)))
              match quota_Valid (t11, ()) with
              | none => none
              | some r12 =>
               match ref20_Valid (t11, ()) with
               | none => none
               | some r13 =>
                bif (!(r12.1 == r13.1)) then
                 some (false, ())
                else
                 match ref20_Same (r6.1, r7.1, ()) with
                 | none => none
                 | some r14 =>
                  bif r14.1 then
                   bif (decide ((r6.2.1 : Int) = r7.2.1)) then
                    some (r0.1, ())
                   else
                    some (false, ())
                  else
                   some (false, ())
             else
              none
            else
             none
           else
            match ref20_Same (r6.1, r7.1, ()) with
            | none => none
            | some r9 =>
             bif r9.1 then
              bif (decide ((r6.2.1 : Int) = r7.2.1)) then
               some (r0.1, ())
              else
               some (false, ())
             else
              some (false, ())
      else
       some (false, ())
def ref05_Key (s : (Int) × Unit) : Option ((List UInt8) × Unit) :=
 match ref05_Path ((Int.tmod s.1 (4 : Int)), ()) with
 | none => none
 | some r0 =>
  let t1 : Int := (IntKind.u8.wrap (Int.tdiv s.1 (4 : Int)))
  bif (decide ((0 : Int) ≤ (Int.tmod t1 (5 : Int))) && decide (((Int.tmod t1 (5 : Int)) : Int) < (List.length ([([1] : List UInt8), ([2, 0, 0] : List UInt8), ([2, 0, 1] : List UInt8), ([2, 0, 2] : List UInt8), ([3, 120] : List UInt8)] : List (List UInt8)) : Int))) then
   let t2 : List UInt8 := (List.getD ([([1] : List UInt8), ([2, 0, 0] : List UInt8), ([2, 0, 1] : List UInt8), ([2, 0, 2] : List UInt8), ([3, 120] : List UInt8)] : List (List UInt8)) (Int.toNat (Int.tmod t1 (5 : Int))) ([] : List UInt8))
   bif (decide (List.length r0.1 + List.length t2 ≤ roomMax)) then
    some ((r0.1 ++ t2), ())
   else
    none
  else
   none
def ref05_Value (s : (Int) × Unit) : Option ((List UInt8) × Unit) :=
 bif (decide ((0 : Int) ≤ (Int.tmod s.1 (5 : Int))) && decide (((Int.tmod s.1 (5 : Int)) : Int) < (List.length ([([] : List UInt8), ([120] : List UInt8), ([121, 121] : List UInt8), ([49, 50, 51, 52, 53, 54, 55, 56, 57, 48] : List UInt8), ([0, 255] : List UInt8)] : List (List UInt8)) : Int))) then
  let t0 : List UInt8 := (List.getD ([([] : List UInt8), ([120] : List UInt8), ([121, 121] : List UInt8), ([49, 50, 51, 52, 53, 54, 55, 56, 57, 48] : List UInt8), ([0, 255] : List UInt8)] : List (List UInt8)) (Int.toNat (Int.tmod s.1 (5 : Int))) ([] : List UInt8))
  some (t0, ())
 else
  none
def ref05_Insert_b0_j0 (s : (List (api_Pair)) × (Bool) × (Int) × (api_Pair) × (List (api_Pair)) × Unit) : Option (((List (api_Pair)) × (Bool) × (Int) × (api_Pair) × (List (api_Pair)) × Unit) ⊕ (((Bool) × (api_Pair) × (List (api_Pair)) × Unit) ⊕ (Unit))) :=
 bif (decide ((0 : Int) ≤ s.2.2.1) && decide ((s.2.2.1 : Int) < (List.length s.1 : Int))) then
  let t0 : api_Pair := (List.getD s.1 (Int.toNat s.2.2.1) (([] : List UInt8), (([] : List UInt8), ((0 : Int), ()))))
  let t1 : Bool := (!decide ((t0.1 : List UInt8) = s.2.2.2.1.1))
  bif t1 then
   bif (decide ((0 : Int) ≤ s.2.2.1) && decide ((s.2.2.1 : Int) < (List.length s.1 : Int))) then
    let t2 : api_Pair := (List.getD s.1 (Int.toNat s.2.2.1) (([] : List UInt8), (([] : List UInt8), ((0 : Int), ()))))
    bif (decide ((List.length s.2.2.2.2.1 + List.length ([t2] : List (api_Pair))) * 40 ≤ roomMax)) then
     let t3 : List (api_Pair) := (s.2.2.2.2.1 ++ ([t2] : List (api_Pair)))
     some (.inl (s.1, s.2.1, (IntKind.i64.wrap (s.2.2.1 + (1 : Int))), s.2.2.2.1, t3, ()))
    else
     none
   else
    none
  else
   some (.inl (s.1, s.2.1, (IntKind.i64.wrap (s.2.2.1 + (1 : Int))), s.2.2.2.1, s.2.2.2.2.1, ()))
 else
  none
def ref05_Insert_b0_j1 (s : (List (api_Pair)) × (Bool) × (Int) × (Bool) × (api_Pair) × (List (api_Pair)) × Unit) : Option (((List (api_Pair)) × (Bool) × (Int) × (api_Pair) × (List (api_Pair)) × Unit) ⊕ (((Bool) × (api_Pair) × (List (api_Pair)) × Unit) ⊕ (Unit))) :=
 bif s.2.2.2.1 then
  bif (decide ((List.length s.2.2.2.2.2.1 + List.length ([s.2.2.2.2.1] : List (api_Pair))) * 40 ≤ roomMax)) then
   let t0 : List (api_Pair) := (s.2.2.2.2.2.1 ++ ([s.2.2.2.2.1] : List (api_Pair)))
   ref05_Insert_b0_j0 (s.1, true, s.2.2.1, s.2.2.2.2.1, t0, ())
  else
   none
 else
  ref05_Insert_b0_j0 (s.1, s.2.1, s.2.2.1, s.2.2.2.2.1, s.2.2.2.2.2.1, ())

def ref05_Insert_b0 (s : (List (api_Pair)) × (Bool) × (Int) × (api_Pair) × (List (api_Pair)) × Unit) : Option (((List (api_Pair)) × (Bool) × (Int) × (api_Pair) × (List (api_Pair)) × Unit) ⊕ (((Bool) × (api_Pair) × (List (api_Pair)) × Unit) ⊕ (Unit))) :=
 let t0 : Bool := (decide ((s.2.2.1 : Int) < ((List.length s.1) : Int)))
 bif t0 then
  bif (!s.2.1) then
   bif (decide ((0 : Int) ≤ s.2.2.1) && decide ((s.2.2.1 : Int) < (List.length s.1 : Int))) then
    let t1 : api_Pair := (List.getD s.1 (Int.toNat s.2.2.1) (([] : List UInt8), (([] : List UInt8), ((0 : Int), ()))))
    let t2 : Bool := (Op.bytesLess s.2.2.2.1.1 t1.1 || decide ((s.2.2.2.1.1 : List UInt8) = t1.1))
    ref05_Insert_b0_j1 (s.1, s.2.1, s.2.2.1, t2, s.2.2.2.1, s.2.2.2.2.1, ())
   else
    none
  else
   ref05_Insert_b0_j1 (s.1, s.2.1, s.2.2.1, false, s.2.2.2.1, s.2.2.2.2.1, ())
 else
  some (.inr (.inl (s.2.1, s.2.2.2.1, s.2.2.2.2.1, ())))
def ref05_Insert_l0 (s : (List (api_Pair)) × (Bool) × (Int) × (api_Pair) × (List (api_Pair)) × Unit) : Option (((Bool) × (api_Pair) × (List (api_Pair)) × Unit) ⊕ (Unit)) := loopO (ref05_Insert_b0) s
def ref05_Insert (s : (List (api_Pair)) × (api_Pair) × Unit) : Option ((List (api_Pair)) × Unit) :=
 match ref05_Insert_l0 (s.1, false, (0 : Int), s.2.1, ([] : List (api_Pair)), ()) with
 | none => none
 | some (.inl z0) =>
  bif (!z0.1) then
   bif (decide ((List.length z0.2.2.1 + List.length ([z0.2.1] : List (api_Pair))) * 40 ≤ roomMax)) then
    let t1 : List (api_Pair) := (z0.2.2.1 ++ ([z0.2.1] : List (api_Pair)))
    some (t1, ())
   else
    none
  else
   some (z0.2.2.1, ())
 | some (.inr z0) =>
  none
def ref05_Table_b0_j0 (s : (List ((Int) × (Int) × (Int) × Unit)) × (Int) × (Int) × (Bool) × (List (api_Pair)) × Unit) : Option (((List ((Int) × (Int) × (Int) × Unit)) × (Int) × (Int) × (List (api_Pair)) × Unit) ⊕ (((List (api_Pair)) × Unit) ⊕ (Unit))) :=
 bif s.2.2.2.1 then
  bif (decide ((0 : Int) ≤ s.2.2.1) && decide ((s.2.2.1 : Int) < (List.length s.1 : Int))) then
   let t0 : (Int) × (Int) × (Int) × Unit := (List.getD s.1 (Int.toNat s.2.2.1) ((0 : Int), ((0 : Int), ((0 : Int), ()))))
   match ref05_Key (t0.1, ()) with
   | none => none
   | some r1 =>
    bif (decide ((0 : Int) ≤ s.2.2.1) && decide ((s.2.2.1 : Int) < (List.length s.1 : Int))) then
     let t2 : (Int) × (Int) × (Int) × Unit := (List.getD s.1 (Int.toNat s.2.2.1) ((0 : Int), ((0 : Int), ((0 : Int), ()))))
     match ref05_Value (t2.2.1, ()) with
     | none => none
     | some r3 =>
      bif (decide ((0 : Int) ≤ s.2.2.1) && decide ((s.2.2.1 : Int) < (List.length s.1 : Int))) then
       let t4 : (Int) × (Int) × (Int) × Unit := (List.getD s.1 (Int.toNat s.2.2.1) ((0 : Int), ((0 : Int), ((0 : Int), ()))))
       let t5 : Int := (IntKind.i64.wrap (Int.tmod t4.2.2.1 (8 : Int)))
       match ref05_Insert (s.2.2.2.2.1, (r1.1, (r3.1, (t5, ()))), ()) with
       | none => none
       | some r6 =>
        some (.inl (s.1, s.2.1, (IntKind.i64.wrap (s.2.2.1 + (1 : Int))), r6.1, ()))
      else
       none
    else
     none
  else
   none
 else
  some (.inr (.inl (s.2.2.2.2.1, ())))

def ref05_Table_b0 (s : (List ((Int) × (Int) × (Int) × Unit)) × (Int) × (Int) × (List (api_Pair)) × Unit) : Option (((List ((Int) × (Int) × (Int) × Unit)) × (Int) × (Int) × (List (api_Pair)) × Unit) ⊕ (((List (api_Pair)) × Unit) ⊕ (Unit))) :=
 let t0 : Bool := (decide ((s.2.2.1 : Int) < ((List.length s.1) : Int)))
 bif t0 then
  ref05_Table_b0_j0 (s.1, s.2.1, s.2.2.1, (decide ((s.2.2.1 : Int) < s.2.1)), s.2.2.2.1, ())
 else
  ref05_Table_b0_j0 (s.1, s.2.1, s.2.2.1, false, s.2.2.2.1, ())
def ref05_Table_l0 (s : (List ((Int) × (Int) × (Int) × Unit)) × (Int) × (Int) × (List (api_Pair)) × Unit) : Option (((List (api_Pair)) × Unit) ⊕ (Unit)) := loopO (ref05_Table_b0) s
def ref05_Table (s : (List ((Int) × (Int) × (Int) × Unit)) × (Int) × Unit) : Option ((List (api_Pair)) × Unit) :=
 match ref05_Table_l0 (s.1, s.2.1, (0 : Int), ([] : List (api_Pair)), ()) with
 | none => none
 | some (.inl z0) =>
  some (z0.1, ())
 | some (.inr z0) =>
  none
def ref02_Prefix_b0 (s : (List UInt8) × (Int) × (List UInt8) × (List UInt8) × Unit) : Option (((List UInt8) × (Int) × (List UInt8) × (List UInt8) × Unit) ⊕ (((List UInt8) × (Int) × (List UInt8) × (List UInt8) × Unit) ⊕ (Unit))) :=
 bif (decide ((s.2.1 : Int) > (0 : Int))) then
  bif (decide ((0 : Int) ≤ (IntKind.i64.wrap (s.2.1 - (1 : Int)))) && decide (((IntKind.i64.wrap (s.2.1 - (1 : Int))) : Int) < (List.length s.1 : Int))) then
   let t0 : Int := ((List.getD s.1 (Int.toNat (IntKind.i64.wrap (s.2.1 - (1 : Int)))) 0).toNat : Int)
   bif (decide ((t0 : Int) = (255 : Int))) then
    some (.inl (s.1, (IntKind.i64.wrap (s.2.1 - (1 : Int))), s.2.2.1, s.2.2.2.1, ()))
   else
    some (.inr (.inl (s.1, s.2.1, s.2.2.1, s.2.2.2.1, ())))
  else
   none
 else
  some (.inr (.inl (s.1, s.2.1, s.2.2.1, s.2.2.2.1, ())))
def ref02_Prefix_l0 (s : (List UInt8) × (Int) × (List UInt8) × (List UInt8) × Unit) : Option (((List UInt8) × (Int) × (List UInt8) × (List UInt8) × Unit) ⊕ (Unit)) := loopO (ref02_Prefix_b0) s
def ref02_Prefix (s : (List UInt8) × Unit) : Option ((api_Span) × Unit) :=
 match ref02_Prefix_l0 (s.1, ((List.length s.1) : Int), ([] : List UInt8), ([] : List UInt8), ()) with
 | none => none
 | some (.inl z0) =>
  bif (decide ((z0.2.1 : Int) = (0 : Int))) then
   some ((z0.1, (([] : List UInt8), ())), ())
  else
   bif (decide (((0 : Int) : Int) ≤ (IntKind.i64.wrap (z0.2.1 - (1 : Int)))) && decide (((IntKind.i64.wrap (z0.2.1 - (1 : Int))) : Int) ≤ (List.length z0.1 : Int))) then
    let t1 : List UInt8 := (List.drop 0 (List.take (Int.toNat (IntKind.i64.wrap (z0.2.1 - (1 : Int)))) z0.1))
    bif (decide ((0 : Int) ≤ (IntKind.i64.wrap (z0.2.1 - (1 : Int)))) && decide (((IntKind.i64.wrap (z0.2.1 - (1 : Int))) : Int) < (List.length z0.1 : Int))) then
     let t2 : Int := ((List.getD z0.1 (Int.toNat (IntKind.i64.wrap (z0.2.1 - (1 : Int)))) 0).toNat : Int)
     let t3 : List UInt8 := (sOfBytes ([(IntKind.u8.wrap (t2 + (1 : Int)))] : List (Int)))
     bif (decide (List.length t1 + List.length t3 ≤ roomMax)) then
      some ((z0.1, ((t1 ++ t3), ())), ())
     else
      none
    else
     none
   else
    none
 | some (.inr z0) =>
  none
def ref02_Has (s : (api_Span) × (List UInt8) × Unit) : Option ((Bool) × Unit) :=
 bif (!(Op.bytesLess s.2.1 s.1.1)) then
  let t0 : Bool := (decide ((s.1.2.1 : List UInt8) = ([] : List UInt8)))
  bif (!t0) then
   some ((Op.bytesLess s.2.1 s.1.2.1), ())
  else
   some (true, ())
 else
  some (false, ())
def ref02_In_b0 (s : (List (api_Span)) × (List UInt8) × (Int) × Unit) : Option (((List (api_Span)) × (List UInt8) × (Int) × Unit) ⊕ (((Bool) × Unit) ⊕ (Unit))) :=
 let t0 : Bool := (decide ((s.2.2.1 : Int) < ((List.length s.1) : Int)))
 bif t0 then
  bif (decide ((0 : Int) ≤ s.2.2.1) && decide ((s.2.2.1 : Int) < (List.length s.1 : Int))) then
   let t1 : api_Span := (List.getD s.1 (Int.toNat s.2.2.1) (([] : List UInt8), (([] : List UInt8), ())))
   match ref02_Has (t1, s.2.1, ()) with
   | none => none
   | some r2 =>
    bif r2.1 then
     some (.inr (.inl (true, ())))
    else
     some (.inl (s.1, s.2.1, (IntKind.i64.wrap (s.2.2.1 + (1 : Int))), ()))
  else
   none
 else
  some (.inr (.inr (())))
def ref02_In_l0 (s : (List (api_Span)) × (List UInt8) × (Int) × Unit) : Option (((Bool) × Unit) ⊕ (Unit)) := loopO (ref02_In_b0) s
def ref02_In (s : (List (api_Span)) × (List UInt8) × Unit) : Option ((Bool) × Unit) :=
 match ref02_In_l0 (s.1, s.2.1, (0 : Int), ()) with
 | none => none
 | some (.inl z0) =>
  some (z0.1, ())
 | some (.inr z0) =>
  some (false, ())
def ref05_Without_b0 (s : (List (api_Pair)) × (List (api_Span)) × (Int) × (List (api_Pair)) × Unit) : Option (((List (api_Pair)) × (List (api_Span)) × (Int) × (List (api_Pair)) × Unit) ⊕ (((List (api_Pair)) × Unit) ⊕ (Unit))) :=
 let t0 : Bool := (decide ((s.2.2.1 : Int) < ((List.length s.1) : Int)))
 bif t0 then
  bif (decide ((0 : Int) ≤ s.2.2.1) && decide ((s.2.2.1 : Int) < (List.length s.1 : Int))) then
   let t1 : api_Pair := (List.getD s.1 (Int.toNat s.2.2.1) (([] : List UInt8), (([] : List UInt8), ((0 : Int), ()))))
   match ref02_In (s.2.1, t1.1, ()) with
   | none => none
   | some r2 =>
    bif (!r2.1) then
     bif (decide ((0 : Int) ≤ s.2.2.1) && decide ((s.2.2.1 : Int) < (List.length s.1 : Int))) then
      let t3 : api_Pair := (List.getD s.1 (Int.toNat s.2.2.1) (([] : List UInt8), (([] : List UInt8), ((0 : Int), ()))))
      bif (decide ((List.length s.2.2.2.1 + List.length ([t3] : List (api_Pair))) * 40 ≤ roomMax)) then
       let t4 : List (api_Pair) := (s.2.2.2.1 ++ ([t3] : List (api_Pair)))
       some (.inl (s.1, s.2.1, (IntKind.i64.wrap (s.2.2.1 + (1 : Int))), t4, ()))
      else
       none
     else
      none
    else
     some (.inl (s.1, s.2.1, (IntKind.i64.wrap (s.2.2.1 + (1 : Int))), s.2.2.2.1, ()))
  else
   none
 else
  some (.inr (.inl (s.2.2.2.1, ())))
def ref05_Without_l0 (s : (List (api_Pair)) × (List (api_Span)) × (Int) × (List (api_Pair)) × Unit) : Option (((List (api_Pair)) × Unit) ⊕ (Unit)) := loopO (ref05_Without_b0) s
def ref05_Without (s : (List (api_Pair)) × (List (api_Span)) × Unit) : Option ((List (api_Pair)) × Unit) :=
 match ref05_Without_l0 (s.1, s.2.1, (0 : Int), ([] : List (api_Pair)), ()) with
 | none => none
 | some (.inl z0) =>
  some (z0.1, ())
 | some (.inr z0) =>
  none
def ref01_guess_j2 (s : (List UInt8) × (Int) × (Bool) × (List UInt8) × (Int) × (Int) × (List UInt8) × (List UInt8) × (Int) × (Int) × (List UInt8) × Unit) : Option ((api_Place) × Unit) :=
 bif s.2.2.1 then
  bif (decide (((1 : Int) : Int) ≤ s.2.1) && decide ((s.2.1 : Int) ≤ (List.length s.1 : Int))) then
   let t0 : List UInt8 := (List.drop (Int.toNat (1 : Int)) (List.take (Int.toNat s.2.1) s.1))
   some ((t0, ((4 : Int), (s.2.2.2.2.2.2.2.2.2.1, (s.2.2.2.2.2.2.2.2.2.2.1, ())))), ())
  else
   none
 else
  some ((s.2.2.2.2.2.2.2.1, (s.2.2.2.2.2.2.2.2.1, (s.2.2.2.2.2.2.2.2.2.1, (s.2.2.2.2.2.2.2.2.2.2.1, ())))), ())
def ref01_guess_j1 (s : (List UInt8) × (Int) × (List UInt8) × (Int) × (Int) × (List UInt8) × (List UInt8) × (Int) × (Int) × (List UInt8) × Unit) : Option ((api_Place) × Unit) :=
 let t0 : Bool := (decide ((s.2.2.2.2.2.2.2.1 : Int) = (1 : Int)))
 bif t0 then
  bif (decide ((s.2.1 : Int) > (0 : Int))) then
   bif (decide (((0 : Int) : Int) < (List.length s.1 : Int))) then
    let t1 : Bool := (decide ((((List.getD s.1 0 0).toNat : Int) : Int) = (6 : Int)))
    ref01_guess_j2 (s.1, s.2.1, t1, s.2.2.1, s.2.2.2.1, s.2.2.2.2.1, s.2.2.2.2.2.1, s.2.2.2.2.2.2.1, s.2.2.2.2.2.2.2.1, s.2.2.2.2.2.2.2.2.1, s.2.2.2.2.2.2.2.2.2.1, ())
   else
    none
  else
   ref01_guess_j2 (s.1, s.2.1, false, s.2.2.1, s.2.2.2.1, s.2.2.2.2.1, s.2.2.2.2.2.1, s.2.2.2.2.2.2.1, s.2.2.2.2.2.2.2.1, s.2.2.2.2.2.2.2.2.1, s.2.2.2.2.2.2.2.2.2.1, ())
 else
  ref01_guess_j2 (s.1, s.2.1, false, s.2.2.1, s.2.2.2.1, s.2.2.2.2.1, s.2.2.2.2.2.1, s.2.2.2.2.2.2.1, s.2.2.2.2.2.2.2.1, s.2.2.2.2.2.2.2.2.1, s.2.2.2.2.2.2.2.2.2.1, ())
def ref01_guess_j0 (s : (List UInt8) × (Int) × (List UInt8) × (List UInt8) × (Int) × (Int) × (List UInt8) × (List UInt8) × (Int) × (Int) × (List UInt8) × Unit) : Option ((api_Place) × Unit) :=
 let t0 : Bool := (decide ((s.2.2.2.2.2.2.2.2.1 : Int) = (3 : Int)))
 bif t0 then
  ref01_guess_j1 (s.1, s.2.1, s.2.2.2.1, s.2.2.2.2.1, s.2.2.2.2.2.1, s.2.2.2.2.2.2.1, s.2.2.2.2.2.2.2.1, s.2.2.2.2.2.2.2.2.1, s.2.2.2.2.2.2.2.2.2.1, s.2.2.1, ())
 else
  ref01_guess_j1 (s.1, s.2.1, s.2.2.2.1, s.2.2.2.2.1, s.2.2.2.2.2.1, s.2.2.2.2.2.2.1, s.2.2.2.2.2.2.2.1, s.2.2.2.2.2.2.2.2.1, s.2.2.2.2.2.2.2.2.2.1, s.2.2.2.2.2.2.2.2.2.2.1, ())
def ref01_guess_j3 (s : (List UInt8) × (Int) × (List UInt8) × (Bool) × (List UInt8) × (Int) × (Int) × (List UInt8) × (List UInt8) × (Int) × (Int) × (List UInt8) × Unit) : Option ((api_Place) × Unit) :=
 bif s.2.2.2.1 then
  bif (decide (((0 : Int) : Int) < (List.length s.2.2.1 : Int))) then
   let t0 : Int := (IntKind.i64.wrap ((List.getD s.2.2.1 0 0).toNat : Int))
   bif (decide (((1 : Int) : Int) < (List.length s.2.2.1 : Int))) then
    let t1 : Int := ((List.getD s.2.2.1 (Int.toNat (1 : Int)) 0).toNat : Int)
    let t2 : Int := (IntKind.i64.wrap ((IntKind.i64.wrap ((256 : Int) * t0)) + (IntKind.i64.wrap t1)))
    ref01_guess_j0 (s.1, s.2.1, s.2.2.1, s.2.2.2.2.1, s.2.2.2.2.2.1, s.2.2.2.2.2.2.1, s.2.2.2.2.2.2.2.1, s.2.2.2.2.2.2.2.2.1, s.2.2.2.2.2.2.2.2.2.1, t2, s.2.2.2.2.2.2.2.2.2.2.2.1, ())
   else
    none
  else
   none
 else
  ref01_guess_j0 (s.1, s.2.1, s.2.2.1, s.2.2.2.2.1, s.2.2.2.2.2.1, s.2.2.2.2.2.2.1, s.2.2.2.2.2.2.2.1, s.2.2.2.2.2.2.2.2.1, s.2.2.2.2.2.2.2.2.2.1, s.2.2.2.2.2.2.2.2.2.2.1, s.2.2.2.2.2.2.2.2.2.2.2.1, ())

def ref01_guess (s : runtime_errorAddressString) : Option ((api_Place) × Unit) :=
 bif (decide (((0 : Int) : Int) ≤ s.2.1) && decide ((s.2.1 : Int) ≤ (List.length s.1 : Int))) then
  let t0 : List UInt8 := (List.drop 0 (List.take (Int.toNat s.2.1) s.1))
  bif (decide ((0 : Int) ≤ s.2.1) && decide ((s.2.1 : Int) < (List.length s.1 : Int))) then
   let t1 : Int := ((List.getD s.1 (Int.toNat s.2.1) 0).toNat : Int)
   bif (decide ((0 : Int) ≤ (IntKind.i64.wrap (s.2.1 + (1 : Int)))) && decide (((IntKind.i64.wrap (s.2.1 + (1 : Int))) : Int) ≤ (List.length s.1 : Int)) && decide (((List.length s.1 : Int) : Int) ≤ (List.length s.1 : Int))) then
    let t2 : List UInt8 := (List.drop (Int.toNat (IntKind.i64.wrap (s.2.1 + (1 : Int)))) (List.take (Int.toNat (List.length s.1 : Int)) s.1))
    let t3 : Bool := (decide (((IntKind.i64.wrap t1) : Int) = (2 : Int)))
    bif t3 then
     let t4 : Bool := (decide ((((List.length t2) : Int) : Int) = (2 : Int)))
     ref01_guess_j3 (s.1, s.2.1, t2, t4, ([] : List UInt8), (0 : Int), (0 : Int), ([] : List UInt8), t0, (IntKind.i64.wrap t1), (0 : Int), ([] : List UInt8), ())
    else
     ref01_guess_j3 (s.1, s.2.1, t2, false, ([] : List UInt8), (0 : Int), (0 : Int), ([] : List UInt8), t0, (IntKind.i64.wrap t1), (0 : Int), ([] : List UInt8), ())
   else
    none
  else
   none
 else
  none
def ref01_Body_b0 (s : (Int) × (List UInt8) × (Int) × Unit) : Option (((Int) × (List UInt8) × (Int) × Unit) ⊕ (((List UInt8) × Unit) ⊕ (Unit))) :=
 bif (decide ((s.2.2.1 : Int) < (8 : Int))) then
  let t0 : Int := (IntKind.i64.wrap ((Int.tmod s.1 (16 : Int)) + (1 : Int)))
  bif (decide ((0 : Int) ≤ (Int.tmod s.1 (16 : Int))) && decide (((Int.tmod s.1 (16 : Int)) : Int) ≤ t0) && decide ((t0 : Int) ≤ (List.length ([48, 49, 50, 51, 52, 53, 54, 55, 56, 57, 97, 98, 99, 100, 101, 102] : List UInt8) : Int))) then
   let t1 : List UInt8 := (List.drop (Int.toNat (Int.tmod s.1 (16 : Int))) (List.take (Int.toNat t0) ([48, 49, 50, 51, 52, 53, 54, 55, 56, 57, 97, 98, 99, 100, 101, 102] : List UInt8)))
   bif (decide (List.length t1 + List.length s.2.1 ≤ roomMax)) then
    let t2 : Int := (IntKind.i64.wrap (Int.tdiv s.1 (16 : Int)))
    some (.inl (t2, (t1 ++ s.2.1), (IntKind.i64.wrap (s.2.2.1 + (1 : Int))), ()))
   else
    none
  else
   none
 else
  some (.inr (.inl (s.2.1, ())))
def ref01_Body_l0 (s : (Int) × (List UInt8) × (Int) × Unit) : Option (((List UInt8) × Unit) ⊕ (Unit)) := loopO (ref01_Body_b0) s
def ref01_Body_j0 (s : (Int) × (Bool) × Unit) : Option ((List UInt8) × Unit) :=
 bif s.2.1 then
  some (([] : List UInt8), ())
 else
  match ref01_Body_l0 (s.1, ([] : List UInt8), (0 : Int), ()) with
  | none => none
  | some (.inl z0) =>
   bif (decide (List.length ([5] : List UInt8) + List.length z0.1 ≤ roomMax)) then
    bif (decide (List.length (([5] : List UInt8) ++ z0.1) + List.length ([47] : List UInt8) ≤ roomMax)) then
     let t1 : List UInt8 := ((([5] : List UInt8) ++ z0.1) ++ ([47] : List UInt8))
     some (t1, ())
    else
     none
   else
    none
  | some (.inr z0) =>
   none

def ref01_Body (s : (Int) × Unit) : Option ((List UInt8) × Unit) :=
 bif (!(decide ((s.1 : Int) < (0 : Int)))) then
  let t0 : Bool := (decide ((s.1 : Int) > (2147483647 : Int)))
  ref01_Body_j0 (s.1, t0, ())
 else
  ref01_Body_j0 (s.1, true, ())
def ref01_IsBody_b0_j0 (s : (List UInt8) × (Int) × (Int) × (Int) × (Bool) × Unit) : Option (((List UInt8) × (Int) × (Int) × Unit) ⊕ ((runtime_errorAddressString) ⊕ (Unit))) :=
 bif s.2.2.2.2.1 then
  let t0 : Int := (IntKind.i64.wrap ((IntKind.i64.wrap ((16 : Int) * s.2.1)) + s.2.2.2.1))
  some (.inl (s.1, (IntKind.i64.wrap (t0 - (48 : Int))), (IntKind.i64.wrap (s.2.2.1 + (1 : Int))), ()))
 else
  let t0 : Int := (IntKind.i64.wrap ((IntKind.i64.wrap ((16 : Int) * s.2.1)) + s.2.2.2.1))
  let t1 : Int := (IntKind.i64.wrap ((IntKind.i64.wrap (t0 - (97 : Int))) + (10 : Int)))
  some (.inl (s.1, t1, (IntKind.i64.wrap (s.2.2.1 + (1 : Int))), ()))

def ref01_IsBody_b0 (s : (List UInt8) × (Int) × (Int) × Unit) : Option (((List UInt8) × (Int) × (Int) × Unit) ⊕ ((runtime_errorAddressString) ⊕ (Unit))) :=
 bif (decide ((s.2.2.1 : Int) < (9 : Int))) then
  bif (decide ((0 : Int) ≤ s.2.2.1) && decide ((s.2.2.1 : Int) < (List.length s.1 : Int))) then
   let t0 : Int := ((List.getD s.1 (Int.toNat s.2.2.1) 0).toNat : Int)
   let t1 : Bool := (decide (((IntKind.i64.wrap t0) : Int) ≥ (48 : Int)))
   bif t1 then
    let t2 : Bool := (decide (((IntKind.i64.wrap t0) : Int) ≤ (57 : Int)))
    ref01_IsBody_b0_j0 (s.1, s.2.1, s.2.2.1, (IntKind.i64.wrap t0), t2, ())
   else
    ref01_IsBody_b0_j0 (s.1, s.2.1, s.2.2.1, (IntKind.i64.wrap t0), false, ())
  else
   none
 else
  some (.inr (.inl (s.1, s.2.1, ())))
def ref01_IsBody_l0 (s : (List UInt8) × (Int) × (Int) × Unit) : Option ((runtime_errorAddressString) ⊕ (Unit)) := loopO (ref01_IsBody_b0) s
def ref01_IsBody (s : (List UInt8) × Unit) : Option ((Bool) × Unit) :=
 let t0 : Bool := (!decide ((((List.length s.1) : Int) : Int) = (10 : Int)))
 bif t0 then
  some (false, ())
 else
  match ref01_IsBody_l0 (s.1, (0 : Int), (1 : Int), ()) with
  | none => none
  | some (.inl z1) =>
   match ref01_Body (z1.2.1, ()) with
   | none => none
   | some r2 =>
    some ((decide ((r2.1 : List UInt8) = z1.1)), ())
  | some (.inr z1) =>
   none
def ref01_right_c100002 (s : (Bool) × (api_Place) × Unit) : Option (((api_Place) × Unit) ⊕ ((Bool) × Unit)) :=
 bif s.1 then
  some (.inr (false, ()))
 else
  some (.inl (s.2.1, ()))
def ref01_right_c10 (s : (api_Place) × Unit) : Option (((Bool) × Unit) ⊕ (Unit)) :=
 bif (decide ((s.1.2.1 : Int) = (4 : Int))) then
  match ref01_Valid (s.1.1, ()) with
  | none => none
  | some r0 =>
   some (.inl (r0.1, ()))
 else
  some (.inl (false, ()))
def ref01_right_c3 (s : (api_Place) × Unit) : Option (((Bool) × Unit) ⊕ (Unit)) :=
 bif (decide ((s.1.2.1 : Int) = (1 : Int))) then
  some (.inl (true, ()))
 else
  bif (decide ((s.1.2.1 : Int) = (2 : Int))) then
   bif (decide ((s.1.2.2.1 : Int) ≥ (0 : Int))) then
    let t0 : Bool := (decide ((s.1.2.2.1 : Int) ≤ (60000 : Int)))
    some (.inl (t0, ()))
   else
    some (.inl (false, ()))
  else
   bif (decide ((s.1.2.1 : Int) = (3 : Int))) then
    match ref01_Name (s.1.2.2.2.1, ()) with
    | none => none
    | some r0 =>
     some (.inl (r0.1, ()))
   else
    match ref01_right_c10 (s.1, ()) with
    | none => none
    | some (.inl z0) =>
     some (.inl (z0.1, ()))
    | some (.inr z0) =>
     none
def ref01_right (s : (api_Place) × Unit) : Option ((Bool) × Unit) :=
 match ref01_Valid (s.1.1, ()) with
 | none => none
 | some r0 =>
  bif (!r0.1) then
   match ref01_IsBody (s.1.1, ()) with
   | none => none
   | some r1 =>
    bif (!(!r1.1)) then
     bif (!decide ((s.1.2.1 : Int) = (2 : Int))) then
      let t2 : Bool := (!decide ((s.1.2.2.1 : Int) = (0 : Int)))
      bif (!t2) then
       bif (!decide ((s.1.2.1 : Int) = (3 : Int))) then
        let t3 : Bool := (!decide ((s.1.2.2.2.1 : List UInt8) = ([] : List UInt8)))
        match ref01_right_c100002 (t3, s.1, ()) with
        | none => none
        | some (.inl z4) =>
         match ref01_right_c3 (z4.1, ()) with
         | none => none
         | some (.inl z5) =>
          some (z5.1, ())
         | some (.inr z5) =>
          none
        | some (.inr z4) =>
         some (z4.1, ())
       else
        match ref01_right_c100002 (false, s.1, ()) with
        | none => none
        | some (.inl z3) =>
         match ref01_right_c3 (z3.1, ()) with
         | none => none
         | some (.inl z4) =>
          some (z4.1, ())
         | some (.inr z4) =>
          none
        | some (.inr z3) =>
         some (z3.1, ())
      else
       match ref01_right_c100002 (true, s.1, ()) with
       | none => none
       | some (.inl z3) =>
        match ref01_right_c3 (z3.1, ()) with
        | none => none
        | some (.inl z4) =>
         some (z4.1, ())
        | some (.inr z4) =>
         none
       | some (.inr z3) =>
        some (z3.1, ())
     else
      bif (!decide ((s.1.2.1 : Int) = (3 : Int))) then
       let t2 : Bool := (!decide ((s.1.2.2.2.1 : List UInt8) = ([] : List UInt8)))
       match ref01_right_c100002 (t2, s.1, ()) with
       | none => none
       | some (.inl z3) =>
        match ref01_right_c3 (z3.1, ()) with
        | none => none
        | some (.inl z4) =>
         some (z4.1, ())
        | some (.inr z4) =>
         none
       | some (.inr z3) =>
        some (z3.1, ())
      else
       match ref01_right_c100002 (false, s.1, ()) with
       | none => none
       | some (.inl z2) =>
        match ref01_right_c3 (z2.1, ()) with
        | none => none
        | some (.inl z3) =>
         some (z3.1, ())
        | some (.inr z3) =>
         none
       | some (.inr z2) =>
        some (z2.1, ())
    else
     match ref01_right_c100002 (true, s.1, ()) with
     | none => none
     | some (.inl z2) =>
      match ref01_right_c3 (z2.1, ()) with
      | none => none
      | some (.inl z3) =>
       some (z3.1, ())
      | some (.inr z3) =>
       none
     | some (.inr z2) =>
      some (z2.1, ())
  else
   bif (!decide ((s.1.2.1 : Int) = (2 : Int))) then
    let t1 : Bool := (!decide ((s.1.2.2.1 : Int) = (0 : Int)))
    bif (!t1) then
     bif (!decide ((s.1.2.1 : Int) = (3 : Int))) then
      let t2 : Bool := (!decide ((s.1.2.2.2.1 : List UInt8) = ([] : List UInt8)))
      match ref01_right_c100002 (t2, s.1, ()) with
      | none => none
      | some (.inl z3) =>
       match ref01_right_c3 (z3.1, ()) with
       | none => none
       | some (.inl z4) =>
        some (z4.1, ())
       | some (.inr z4) =>
        none
      | some (.inr z3) =>
       some (z3.1, ())
     else
      match ref01_right_c100002 (false, s.1, ()) with
      | none => none
      | some (.inl z2) =>
       match ref01_right_c3 (z2.1, ()) with
       | none => none
       | some (.inl z3) =>
        some (z3.1, ())
       | some (.inr z3) =>
        none
      | some (.inr z2) =>
       some (z2.1, ())
    else
     match ref01_right_c100002 (true, s.1, ()) with
     | none => none
     | some (.inl z2) =>
      match ref01_right_c3 (z2.1, ()) with
      | none => none
      | some (.inl z3) =>
       some (z3.1, ())
      | some (.inr z3) =>
       none
     | some (.inr z2) =>
      some (z2.1, ())
   else
    bif (!decide ((s.1.2.1 : Int) = (3 : Int))) then
     let t1 : Bool := (!decide ((s.1.2.2.2.1 : List UInt8) = ([] : List UInt8)))
     match ref01_right_c100002 (t1, s.1, ()) with
     | none => none
     | some (.inl z2) =>
      match ref01_right_c3 (z2.1, ()) with
      | none => none
      | some (.inl z3) =>
       some (z3.1, ())
      | some (.inr z3) =>
       none
     | some (.inr z2) =>
      some (z2.1, ())
    else
     match ref01_right_c100002 (false, s.1, ()) with
     | none => none
     | some (.inl z1) =>
      match ref01_right_c3 (z1.1, ()) with
      | none => none
      | some (.inl z2) =>
       some (z2.1, ())
      | some (.inr z2) =>
       none
     | some (.inr z1) =>
      some (z1.1, ())
def ref01_Key (s : (api_Place) × Unit) : Option (runtime_errorAddressString) :=
 match ref01_right (s.1, ()) with
 | none => none
 | some r0 =>
  bif (!r0.1) then
   some (([] : List UInt8), (12 : Int), ())
  else
   bif (decide ((s.1.2.1 : Int) = (1 : Int))) then
    bif (decide (List.length s.1.1 + List.length ([1] : List UInt8) ≤ roomMax)) then
     some ((s.1.1 ++ ([1] : List UInt8)), (0 : Int), ())
    else
     none
   else
    bif (decide ((s.1.2.1 : Int) = (2 : Int))) then
     bif (decide (List.length s.1.1 + List.length ([2] : List UInt8) ≤ roomMax)) then
      let t1 : Int := (IntKind.i64.wrap (Int.tdiv s.1.2.2.1 (256 : Int)))
      let t2 : Int := (IntKind.u8.wrap (Int.tmod s.1.2.2.1 (256 : Int)))
      let t3 : List UInt8 := (sOfBytes ([(IntKind.u8.wrap t1), t2] : List (Int)))
      bif (decide (List.length (s.1.1 ++ ([2] : List UInt8)) + List.length t3 ≤ roomMax)) then
       some (((s.1.1 ++ ([2] : List UInt8)) ++ t3), (0 : Int), ())
      else
       none
     else
      none
    else
     bif (decide ((s.1.2.1 : Int) = (3 : Int))) then
      bif (decide (List.length s.1.1 + List.length ([3] : List UInt8) ≤ roomMax)) then
       bif (decide (List.length (s.1.1 ++ ([3] : List UInt8)) + List.length s.1.2.2.2.1 ≤ roomMax)) then
        let t1 : List UInt8 := ((s.1.1 ++ ([3] : List UInt8)) ++ s.1.2.2.2.1)
        some (t1, (0 : Int), ())
       else
        none
      else
       none
     else
      bif (decide (List.length ([6] : List UInt8) + List.length s.1.1 ≤ roomMax)) then
       bif (decide (List.length (([6] : List UInt8) ++ s.1.1) + List.length ([1] : List UInt8) ≤ roomMax)) then
        let t1 : List UInt8 := ((([6] : List UInt8) ++ s.1.1) ++ ([1] : List UInt8))
        some (t1, (0 : Int), ())
       else
        none
      else
       none
def ref01_Place_b0_j0 (s : (List UInt8) × (Int) × (Bool) × (List UInt8) × (Int) × (Int) × (List UInt8) × Unit) : Option (((List UInt8) × (Int) × (List UInt8) × (Int) × (Int) × (List UInt8) × Unit) ⊕ (((Int) × (api_Place) × Unit) ⊕ (api_Place))) :=
 bif s.2.2.1 then
  some (.inl (s.1, (IntKind.i64.wrap (s.2.1 + (1 : Int))), s.2.2.2.1, s.2.2.2.2.1, s.2.2.2.2.2.1, s.2.2.2.2.2.2.1, ()))
 else
  match ref01_guess (s.1, s.2.1, ()) with
  | none => none
  | some r0 =>
   match ref01_Key (r0.1, ()) with
   | none => none
   | some r1 =>
    bif (decide ((r1.2.1 : Int) = (0 : Int))) then
     bif (decide ((r1.1 : List UInt8) = s.1)) then
      some (.inr (.inl ((0 : Int), r0.1, ())))
     else
      some (.inl (s.1, (IntKind.i64.wrap (s.2.1 + (1 : Int))), s.2.2.2.1, s.2.2.2.2.1, s.2.2.2.2.2.1, s.2.2.2.2.2.2.1, ()))
    else
     some (.inl (s.1, (IntKind.i64.wrap (s.2.1 + (1 : Int))), s.2.2.2.1, s.2.2.2.2.1, s.2.2.2.2.2.1, s.2.2.2.2.2.2.1, ()))

def ref01_Place_b0 (s : (List UInt8) × (Int) × (List UInt8) × (Int) × (Int) × (List UInt8) × Unit) : Option (((List UInt8) × (Int) × (List UInt8) × (Int) × (Int) × (List UInt8) × Unit) ⊕ (((Int) × (api_Place) × Unit) ⊕ (api_Place))) :=
 let t0 : Bool := (decide ((s.2.1 : Int) < ((List.length s.1) : Int)))
 bif t0 then
  bif (decide ((0 : Int) ≤ s.2.1) && decide ((s.2.1 : Int) < (List.length s.1 : Int))) then
   let t1 : Int := ((List.getD s.1 (Int.toNat s.2.1) 0).toNat : Int)
   bif (!(decide ((t1 : Int) < (1 : Int)))) then
    bif (decide ((0 : Int) ≤ s.2.1) && decide ((s.2.1 : Int) < (List.length s.1 : Int))) then
     let t2 : Int := ((List.getD s.1 (Int.toNat s.2.1) 0).toNat : Int)
     ref01_Place_b0_j0 (s.1, s.2.1, (decide ((t2 : Int) > (3 : Int))), s.2.2.1, s.2.2.2.1, s.2.2.2.2.1, s.2.2.2.2.2.1, ())
    else
     none
   else
    ref01_Place_b0_j0 (s.1, s.2.1, true, s.2.2.1, s.2.2.2.1, s.2.2.2.2.1, s.2.2.2.2.2.1, ())
  else
   none
 else
  some (.inr (.inr (s.2.2.1, s.2.2.2.1, s.2.2.2.2.1, s.2.2.2.2.2.1, ())))
def ref01_Place_l0 (s : (List UInt8) × (Int) × (List UInt8) × (Int) × (Int) × (List UInt8) × Unit) : Option (((Int) × (api_Place) × Unit) ⊕ (api_Place)) := loopO (ref01_Place_b0) s
def ref01_Place (s : (List UInt8) × Unit) : Option ((api_Place) × (Int) × Unit) :=
 match ref01_Place_l0 (s.1, (0 : Int), ([] : List UInt8), (0 : Int), (0 : Int), ([] : List UInt8), ()) with
 | none => none
 | some (.inl z0) =>
  some (z0.2.1, z0.1, ())
 | some (.inr z0) =>
  some ((([] : List UInt8), ((0 : Int), ((0 : Int), (([] : List UInt8), ())))), (12 : Int), ())
def ref03_Charge (s : (api_Pair) × Unit) : Option (quota_amount) :=
 match ref01_Place (s.1.1, ()) with
 | none => none
 | some r0 =>
  bif (!decide ((r0.2.1 : Int) = (0 : Int))) then
   some (((0 : Int), ((0 : Int), ())), ())
  else
   bif (decide ((r0.1.2.1 : Int) = (1 : Int))) then
    some (((1 : Int), ((0 : Int), ())), ())
   else
    bif (decide ((r0.1.2.1 : Int) = (2 : Int))) then
     some (((0 : Int), (((List.length s.1.2.1) : Int), ())), ())
    else
     bif (decide ((r0.1.2.1 : Int) = (3 : Int))) then
      some (((0 : Int), (((List.length s.1.2.1) : Int), ())), ())
     else
      some (((0 : Int), ((0 : Int), ())), ())
def ref03_Total_b0 (s : (List (api_Pair)) × (Int) × (Int) × (Int) × (Int) × (Int) × Unit) : Option (((List (api_Pair)) × (Int) × (Int) × (Int) × (Int) × (Int) × Unit) ⊕ (((Int) × (Int) × (Int) × (Int) × Unit) ⊕ (Unit))) :=
 let t0 : Bool := (decide ((s.2.1 : Int) < ((List.length s.1) : Int)))
 bif t0 then
  bif (decide ((0 : Int) ≤ s.2.1) && decide ((s.2.1 : Int) < (List.length s.1 : Int))) then
   let t1 : api_Pair := (List.getD s.1 (Int.toNat s.2.1) (([] : List UInt8), (([] : List UInt8), ((0 : Int), ()))))
   match ref03_Charge (t1, ()) with
   | none => none
   | some r2 =>
    let t3 : Int := (IntKind.i64.wrap (s.2.2.2.2.1 + r2.1.1))
    let t4 : Int := (IntKind.i64.wrap (s.2.2.2.2.2.1 + r2.1.2.1))
    some (.inl (s.1, (IntKind.i64.wrap (s.2.1 + (1 : Int))), s.2.2.1, s.2.2.2.1, t3, t4, ()))
  else
   none
 else
  some (.inr (.inl (s.2.2.1, s.2.2.2.1, s.2.2.2.2.1, s.2.2.2.2.2.1, ())))
def ref03_Total_l0 (s : (List (api_Pair)) × (Int) × (Int) × (Int) × (Int) × (Int) × Unit) : Option (((Int) × (Int) × (Int) × (Int) × Unit) ⊕ (Unit)) := loopO (ref03_Total_b0) s
def ref03_Total (s : (List (api_Pair)) × Unit) : Option (quota_amount) :=
 match ref03_Total_l0 (s.1, (0 : Int), (0 : Int), (0 : Int), (0 : Int), (0 : Int), ()) with
 | none => none
 | some (.inl z0) =>
  some ((z0.2.2.1, (z0.2.2.2.1, ())), ())
 | some (.inr z0) =>
  none
def ref20_Add (s : (api_Use) × (api_Use) × Unit) : Option (quota_amount) :=
 some (((IntKind.i64.wrap (s.1.1 + s.2.1.1)), ((IntKind.i64.wrap (s.1.2.1 + s.2.1.2.1)), ())), ())
def ref02_One (s : (List UInt8) × Unit) : Option ((api_Span) × Unit) :=
 bif (decide (List.length s.1 + List.length ([0] : List UInt8) ≤ roomMax)) then
  some ((s.1, ((s.1 ++ ([0] : List UInt8)), ())), ())
 else
  none
def ref02_Begins (s : api_Span) : Option ((Bool) × Unit) :=
 let t0 : Bool := (decide ((((List.length s.1) : Int) : Int) ≥ ((List.length s.2.1) : Int)))
 bif t0 then
  bif (decide (((0 : Int) : Int) ≤ ((List.length s.2.1) : Int)) && decide ((((List.length s.2.1) : Int) : Int) ≤ (List.length s.1 : Int))) then
   let t1 : List UInt8 := (List.drop 0 (List.take (Int.toNat ((List.length s.2.1) : Int)) s.1))
   some ((decide ((t1 : List UInt8) = s.2.1)), ())
  else
   none
 else
  some (false, ())
def law20_QuotaSums_j0 (s : (Bool) × (List UInt8) × (Bool) × ((Int) × (Int) × (Int) × Unit) × (List (api_Pair)) × Unit) : Option ((Bool) × Unit) :=
 bif s.2.2.1 then
  some (false, ())
 else
  match ref05_Key (s.2.2.2.1.1, ()) with
  | none => none
  | some r0 =>
   match ref05_Value (s.2.2.2.1.2.1, ()) with
   | none => none
   | some r1 =>
    match ref02_One (r0.1, ()) with
    | none => none
    | some r2 =>
     match ref05_Without (s.2.2.2.2.1, ([r2.1] : List (api_Span)), ()) with
     | none => none
     | some r3 =>
      match ref05_Insert (r3.1, (r0.1, (r1.1, ((0 : Int), ()))), ()) with
      | none => none
      | some r4 =>
       match quota_Of (r3.1, s.2.1, ()) with
       | none => none
       | some r5 =>
        match ref02_Begins (r0.1, s.2.1, ()) with
        | none => none
        | some r6 =>
         bif r6.1 then
          match ref03_Charge ((r0.1, (r1.1, ((0 : Int), ()))), ()) with
          | none => none
          | some r7 =>
           match ref20_Add (r5.1, r7.1, ()) with
           | none => none
           | some r8 =>
            match quota_Of (r4.1, s.2.1, ()) with
            | none => none
            | some r9 =>
             let t10 : Bool := (Ty.eqb tapi_Use r9.1 r8.1)
             bif t10 then
              some (s.1, ())
             else
              some (false, ())
         else
          match quota_Of (r4.1, s.2.1, ()) with
          | none => none
          | some r7 =>
           let t8 : Bool := (Ty.eqb tapi_Use r7.1 r5.1)
           bif t8 then
            some (s.1, ())
           else
            some (false, ())

def law20_QuotaSums (s : (List ((Int) × (Int) × (Int) × Unit)) × (Int) × ((Int) × (Int) × (Int) × Unit) × Unit) : Option ((Bool) × Unit) :=
 match law20_sanity (()) with
 | none => none
 | some r0 =>
  match ref05_Table (s.1, (12 : Int), ()) with
  | none => none
  | some r1 =>
   match ref20_Path (s.2.1, ()) with
   | none => none
   | some r2 =>
    match ref02_Prefix (r2.1, ()) with
    | none => none
    | some r3 =>
     match ref05_Without (r1.1, ([r3.1] : List (api_Span)), ()) with
     | none => none
     | some r4 =>
      match quota_Of (r1.1, r2.1, ()) with
      | none => none
      | some r5 =>
       match ref03_Total (r4.1, ()) with
       | none => none
       | some r6 =>
        match ref20_Add (r5.1, r6.1, ()) with
        | none => none
        | some r7 =>
         match quota_Of (r1.1, ([] : List UInt8), ()) with
         | none => none
         | some r8 =>
          let t9 : Bool := (!(Ty.eqb tapi_Use r7.1 r8.1))
          bif (!t9) then
           match quota_Of (r1.1, ([] : List UInt8), ()) with
           | none => none
           | some r10 =>
            match ref03_Total (r1.1, ()) with
            | none => none
            | some r11 =>
             let t12 : Bool := (!(Ty.eqb tapi_Use r10.1 r11.1))
             bif (!t12) then
              match quota_Of (r4.1, r2.1, ()) with
              | none => none
              | some r13 =>
               let t14 : Bool := (!(Ty.eqb tapi_Use r13.1 ((0 : Int), ((0 : Int), ()))))
               law20_QuotaSums_j0 (r0.1, r2.1, t14, s.2.2.1, r1.1, ())
             else
              law20_QuotaSums_j0 (r0.1, r2.1, true, s.2.2.1, r1.1, ())
          else
           law20_QuotaSums_j0 (r0.1, r2.1, true, s.2.2.1, r1.1, ())


end D
