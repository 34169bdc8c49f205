/- Plain functions, by program. -/
import Derived.Test.YtmmmpanpbphkdaaGreatDoorXD
set_option linter.unusedVariables false
open Go Go.X
namespace D
abbrev fi : Type := Int × Int × Unit
abbrev au : Type := List UInt8 × Int × Unit
abbrev aZ : Type := Int × Int × Int × Unit
abbrev vp : Type := fi × Unit
abbrev aa : Type := List UInt8 × List UInt8 × Unit
abbrev ae : Type := List UInt8 × List UInt8 × Int × Unit
abbrev bO : Type := List UInt8 × Int × Int × List UInt8 × Unit
abbrev api_Sum : Type := fi × fi × Unit
abbrev lN : Type := ae × Bool × Int × Int × Unit
abbrev eo : Type := Bool × Bool × ae × List UInt8 × Bool × Int × Unit
abbrev ai : Type := Int × List UInt8 × List UInt8 × aa × List UInt8 × List UInt8 × Int × Unit
abbrev api_Node : Type := List ae × (List (List UInt8)) × List Int × List api_Sum × List ai × Unit
abbrev aF : Type := List aZ × ((List (Int × Int × Int × Int × Int × Int × Unit)) × (List (Int × Int × Int × Int × Int × Int × Unit)) × (List (Int × Int × Int × Int × Int × Int × Unit)) × (List (Int × Int × Int × Int × Int × Int × Unit)) × Unit) × Int × Unit
abbrev ak : Type := Bool × Bool × Int × api_Node × Unit
abbrev aj : Type := List ak × Unit
abbrev aO : Type := aj × Int × Unit
abbrev eA : Type := aj × Int × Int × Unit
abbrev az : Type := aj × Int × aZ × Unit
@[reducible] def aY : Ty := (.pair (.int .i64) (.pair (.int .i64) .unit))
@[reducible] def ad0 : Ty := (.pair (.int .i64) aY)
@[reducible] def a1w : Ty := (.pair aY .unit)
@[reducible] def ac : Ty := (.pair .str (.pair .str .unit))
@[reducible] def af : Ty := (.pair .str (.pair .str (.pair (.int .i64) .unit)))
@[reducible] def aE : Ty := (.pair .str (.pair (.int .i64) (.pair (.int .i64) (.pair .str .unit))))
@[reducible] def aH : Ty := (.pair aY a1w)
@[reducible] def auz : Ty := (.pair af (.pair .bool aY))
@[reducible] def pJ : Ty := (.pair (.pair .str .unit) (.pair aE .unit))
@[reducible] def aD : Ty := (.pair .bool (.pair .bool (.pair af (.pair .str (.pair .bool (.pair (.int .i64) .unit))))))
@[reducible] def am : Ty := (.pair (.int .i64) (.pair .str (.pair .str (.pair ac af))))
@[reducible] def a8 : Ty := (.pair (.list af) (.pair (.list .str) (.pair (.list (.int .i64)) (.pair (.list aH) (.pair (.list am) .unit)))))
@[reducible] def dt : Ty := (.pair (.list (.pair (.int .u8) (.pair (.int .u8) (.pair (.int .u8) .unit)))) (.pair (.pair (.list (.pair (.int .u8) (.pair (.int .u8) (.pair (.int .u8) (.pair (.int .u8) (.pair (.int .u8) (.pair (.int .u8) .unit))))))) (.pair (.list (.pair (.int .u8) (.pair (.int .u8) (.pair (.int .u8) (.pair (.int .u8) (.pair (.int .u8) (.pair (.int .u8) .unit))))))) (.pair (.list (.pair (.int .u8) (.pair (.int .u8) (.pair (.int .u8) (.pair (.int .u8) (.pair (.int .u8) (.pair (.int .u8) .unit))))))) (.pair (.list (.pair (.int .u8) (.pair (.int .u8) (.pair (.int .u8) (.pair (.int .u8) (.pair (.int .u8) (.pair (.int .u8) .unit))))))) .unit)))) (.pair (.int .u8) .unit)))
@[reducible] def aN : Ty := (.pair .bool (.pair .bool (.pair (.int .i64) (.pair a8 .unit))))
@[reducible] def aq : Ty := (.pair (.list aN) .unit)
@[reducible] def aB : Ty := (.pair aq (.pair (.int .i64) .unit))
@[reducible] def bv : Ty := (.pair aq aY)
@[reducible] def bo : Ty := (.pair aq (.pair (.int .i64) (.pair ad0 .unit)))
def v7 (s : aO) : Option (Bool × Unit) :=
 bif decide (s.2.1 >= 0) then
  let t0 : Bool := (decide (s.2.1 < ((List.length s.1.1) : Int)))
  bif t0 then
   bif decide (0 <= s.2.1) && decide (s.2.1 < (List.length s.1.1 : Int)) then
    let t1 : ak := (List.getD s.1.1 (Int.toNat s.2.1) (false, (false, (0, (([], ([], ([], ([], ([], ()))))), ())))))
    some (t1.1, ())
   else none
  else
   some (false, ())
 else
  some (false, ())
def u9 (s : aj × Unit) : Option aj :=
 bif (decide ((List.length ([] : List ak) + List.length s.1.1) * 136 <= aw)) then
  let t0 : List ak := ([] ++ s.1.1)
  some (t0, ())
 else none
def u5 (s : Int × aj × api_Node × List ak × Int × Int × Unit) : Option ((Int × aj × api_Node × List ak × Int × Int × Unit) ⊕ (eA ⊕ (aj × api_Node × List ak × Int × Int × Unit))) :=
 let t0 : Bool := (decide (s.1 < ((List.length s.2.2.1.2.2.1) : Int)))
 bif t0 then
  bif decide (0 <= s.1) && decide (s.1 < (List.length s.2.2.1.2.2.1 : Int)) then
   let t1 : Int := (List.getD s.2.2.1.2.2.1 (Int.toNat s.1) 0)
   match v7 (s.2.1, t1, ()) with
   | none => none
   | some r2 =>
    bif !r2.1 then
     some (.inr (.inl (s.2.1, 0, 110, ())))
    else
     some (.inl ((IntKind.i64.wrap (s.1 + 1)), s.2.1, s.2.2.1, s.2.2.2.1, s.2.2.2.2.1, s.2.2.2.2.2.1, ()))
  else none
 else
  some (.inr (.inr (s.2.1, s.2.2.1, s.2.2.2.1, s.2.2.2.2.1, s.2.2.2.2.2.1, ())))
def adk (s : Int × aj × api_Node × List ak × Int × Int × Unit) : Option (eA ⊕ (aj × api_Node × List ak × Int × Int × Unit)) := aP u5 s
def u6 (s : Int × aj × api_Node × List ak × Int × Int × Unit) : Option ((Int × aj × api_Node × List ak × Int × Int × Unit) ⊕ ((Int × aj × api_Node × List ak × Int × Int × Unit) ⊕ Unit)) :=
 let t0 : Bool := (decide (s.1 < ((List.length s.2.1.1) : Int)))
 bif t0 then
  bif decide (0 <= s.1) && decide (s.1 < (List.length s.2.1.1 : Int)) then
   let t1 : ak := (List.getD s.2.1.1 (Int.toNat s.1) (false, (false, (0, (([], ([], ([], ([], ([], ()))))), ())))))
   bif t1.1 then
    some (.inl ((IntKind.i64.wrap (s.1 + 1)), s.2.1, s.2.2.1, s.2.2.2.1, s.2.2.2.2.1, s.2.2.2.2.2.1, ()))
   else
    some (.inr (.inl (s.1, s.2.1, s.2.2.1, s.2.2.2.1, s.2.2.2.2.1, s.2.2.2.2.2.1, ())))
  else none
 else
  some (.inr (.inl (s.1, s.2.1, s.2.2.1, s.2.2.2.1, s.2.2.2.2.1, s.2.2.2.2.2.1, ())))
def adl (s : Int × aj × api_Node × List ak × Int × Int × Unit) : Option ((Int × aj × api_Node × List ak × Int × Int × Unit) ⊕ Unit) := aP u6 s
def u7 (s : Int × Int × api_Node × List ak × Int × Int × List ak × Unit) : Option ((Int × Int × api_Node × List ak × Int × Int × List ak × Unit) ⊕ ((Int × List ak × Int × Int × List ak × Unit) ⊕ Unit)) :=
 let t0 : Bool := (decide (s.2.1 < ((List.length s.2.2.1.2.2.1) : Int)))
 bif t0 then
  bif decide (0 <= s.2.1) && decide (s.2.1 < (List.length s.2.2.1.2.2.1 : Int)) then
   let t1 : Int := (List.getD s.2.2.1.2.2.1 (Int.toNat s.2.1) 0)
   bif decide (0 <= t1) && decide (t1 < (List.length s.2.2.2.2.2.2.1 : Int)) then
    let t2 : ak := (List.getD s.2.2.2.2.2.2.1 (Int.toNat t1) (false, (false, (0, (([], ([], ([], ([], ([], ()))))), ())))))
    let t3 : Int := IntKind.i64.wrap (t2.2.2.1 + 1)
    bif decide (0 <= t1) && decide (t1 < (List.length s.2.2.2.2.2.2.1 : Int)) then
     let t4 : List ak := (List.set s.2.2.2.2.2.2.1 (Int.toNat t1) ((List.getD s.2.2.2.2.2.2.1 (Int.toNat t1) (false, (false, (0, (([], ([], ([], ([], ([], ()))))), ()))))).1, ((List.getD s.2.2.2.2.2.2.1 (Int.toNat t1) (false, (false, (0, (([], ([], ([], ([], ([], ()))))), ()))))).2.1, (t3, (List.getD s.2.2.2.2.2.2.1 (Int.toNat t1) (false, (false, (0, (([], ([], ([], ([], ([], ()))))), ()))))).2.2.2))))
     some (.inl (s.1, (IntKind.i64.wrap (s.2.1 + 1)), s.2.2.1, s.2.2.2.1, s.2.2.2.2.1, s.2.2.2.2.2.1, t4, ()))
    else none
   else none
  else none
 else
  some (.inr (.inl (s.1, s.2.2.2.1, s.2.2.2.2.1, s.2.2.2.2.2.1, s.2.2.2.2.2.2.1, ())))
def adm (s : Int × Int × api_Node × List ak × Int × Int × List ak × Unit) : Option ((Int × List ak × Int × Int × List ak × Unit) ⊕ Unit) := aP u7 s
def adj (s : Int × api_Node × List ak × Int × Int × List ak × Unit) : Option (eA × Unit) :=
 bif decide (0 <= s.1) && decide (s.1 < (List.length s.2.2.2.2.2.1 : Int)) then
  let t0 : List ak := (List.set s.2.2.2.2.2.1 (Int.toNat s.1) (true, (false, (1, (s.2.1, ())))))
  match adm (s.1, 0, s.2.1, s.2.2.1, s.2.2.2.1, s.2.2.2.2.1, t0, ()) with
  | none => none
  | some (.inl z1) =>
   some (((z1.2.2.2.2.1, ()), (z1.1, (0, ()))), ())
  | some (.inr z1) =>
   none
 else none

def sZ (s : aj × api_Node × Unit) : Option (eA × Unit) :=
 match adk (0, s.1, s.2.1, [], 0, 0, ()) with
 | none => none
 | some (.inl z0) =>
  some ((z0.1, (z0.2.1, (z0.2.2.1, ()))), ())
 | some (.inr z0) =>
  match adl (0, z0.1, z0.2.1, z0.2.2.1, z0.2.2.2.1, z0.2.2.2.2.1, ()) with
  | none => none
  | some (.inl z1) =>
   bif decide (z1.1 >= 4096) then
    some ((z1.2.1, (0, (111, ()))), ())
   else
    match u9 (z1.2.1, ()) with
    | none => none
    | some r2 =>
     let t3 : Bool := (decide (z1.1 = ((List.length r2.1) : Int)))
     bif t3 then
      bif (decide ((List.length r2.1 + List.length ([(false, (false, (0, (([], ([], ([], ([], ([], ()))))), ()))))] : List ak)) * 136 <= aw)) then
       let t4 : List ak := (r2.1 ++ ([(false, (false, (0, (([], ([], ([], ([], ([], ()))))), ()))))] : List ak))
       adj (z1.1, z1.2.2.1, z1.2.2.2.1, z1.2.2.2.2.1, z1.2.2.2.2.2.1, t4, ())
      else none
     else
      adj (z1.1, z1.2.2.1, z1.2.2.2.1, z1.2.2.2.2.1, z1.2.2.2.2.2.1, r2.1, ())
  | some (.inr z1) =>
   none
def vQ (s : Int × List ak × Unit) : Option (Bool × List ak × Unit) :=
 bif decide (s.1 >= 0) then
  let t0 : Bool := (decide (s.1 < ((List.length s.2.1) : Int)))
  bif t0 then
   bif decide (0 <= s.1) && decide (s.1 < (List.length s.2.1 : Int)) then
    let t1 : ak := (List.getD s.2.1 (Int.toNat s.1) (false, (false, (0, (([], ([], ([], ([], ([], ()))))), ())))))
    some (t1.1, s.2.1, ())
   else none
  else
   some (false, s.2.1, ())
 else
  some (false, s.2.1, ())
def rE (s : List Int × List ak × List ak × Unit) : Option ((List Int × List ak × List ak × Unit) ⊕ ((List ak × List ak × Unit) ⊕ Unit)) :=
 let t0 : Bool := (decide ((((List.length s.1) : Int) : Int) > 0))
 bif t0 then
  bif decide ((0 : Int) < (List.length s.1 : Int)) then
   bif (decide ((1 : Int) <= (List.length s.1 : Int)) && decide (((List.length s.1 : Int) : Int) <= (List.length s.1 : Int))) then
    let t1 : List Int := (List.drop (Int.toNat 1) (List.take (Int.toNat (List.length s.1 : Int)) s.1))
    match vQ ((List.getD s.1 0 0), s.2.2.1, ()) with
    | none => none
    | some r2 =>
     bif !r2.1 then
      some (.inl (t1, s.2.1, r2.2.1, ()))
     else
      bif (decide (0 <= (List.getD s.1 0 0)) && decide (((List.getD s.1 0 0) : Int) < (List.length r2.2.1 : Int))) then
       let t3 : ak := (List.getD r2.2.1 (Int.toNat (List.getD s.1 0 0)) (false, (false, (0, (([], ([], ([], ([], ([], ()))))), ())))))
       let t4 : Int := IntKind.i64.wrap (t3.2.2.1 - 1)
       bif (decide (0 <= (List.getD s.1 0 0)) && decide (((List.getD s.1 0 0) : Int) < (List.length r2.2.1 : Int))) then
        let t5 : List ak := (List.set r2.2.1 (Int.toNat (List.getD s.1 0 0)) ((List.getD r2.2.1 (Int.toNat (List.getD s.1 0 0)) (false, (false, (0, (([], ([], ([], ([], ([], ()))))), ()))))).1, ((List.getD r2.2.1 (Int.toNat (List.getD s.1 0 0)) (false, (false, (0, (([], ([], ([], ([], ([], ()))))), ()))))).2.1, (t4, (List.getD r2.2.1 (Int.toNat (List.getD s.1 0 0)) (false, (false, (0, (([], ([], ([], ([], ([], ()))))), ()))))).2.2.2))))
        bif (decide (0 <= (List.getD s.1 0 0)) && decide (((List.getD s.1 0 0) : Int) < (List.length t5 : Int))) then
         let t6 : ak := (List.getD t5 (Int.toNat (List.getD s.1 0 0)) (false, (false, (0, (([], ([], ([], ([], ([], ()))))), ())))))
         bif decide (t6.2.2.1 = 0) then
          bif (decide ((List.length ([] : List Int) + List.length t1) * 8 <= aw)) then
           bif (decide (0 <= (List.getD s.1 0 0)) && decide (((List.getD s.1 0 0) : Int) < (List.length t5 : Int))) then
            let t7 : ak := (List.getD t5 (Int.toNat (List.getD s.1 0 0)) (false, (false, (0, (([], ([], ([], ([], ([], ()))))), ())))))
            bif (decide ((List.length ([] ++ t1) + List.length t7.2.2.2.1.2.2.1) * 8 <= aw)) then
             let t8 : List Int := (([] ++ t1) ++ t7.2.2.2.1.2.2.1)
             bif (decide (0 <= (List.getD s.1 0 0)) && decide (((List.getD s.1 0 0) : Int) < (List.length t5 : Int))) then
              let t9 : List ak := (List.set t5 (Int.toNat (List.getD s.1 0 0)) (false, (false, (0, (([], ([], ([], ([], ([], ()))))), ())))))
              some (.inl (t8, s.2.1, t9, ()))
             else none
            else none
           else none
          else none
         else
          some (.inl (t1, s.2.1, t5, ()))
        else none
       else none
      else none
   else none
  else none
 else
  some (.inr (.inl (s.2.1, s.2.2.1, ())))
def aaU (s : List Int × List ak × List ak × Unit) : Option ((List ak × List ak × Unit) ⊕ Unit) := aP rE s
def vz (s : aO) : Option aO :=
 match v7 (s.1, s.2.1, ()) with
 | none => none
 | some r0 =>
  bif !r0.1 then
   some (s.1, 110, ())
  else
   match u9 (s.1, ()) with
   | none => none
   | some r1 =>
    match aaU (([s.2.1] : List Int), [], r1.1, ()) with
    | none => none
    | some (.inl z2) =>
     some ((z2.2.1, ()), 0, ())
    | some (.inr z2) =>
     none
def afW (s : Unit) : Option (az × Unit) :=
 match sZ (([], ()), (([(([97, 47, 120] : List UInt8), (([49] : List UInt8), (0, ())))] : List ae), ([], ([], ([], ([], ()))))), ()) with
 | none => none
 | some r0 =>
  match sZ (r0.1.1, ([], ([], ([], ([], ([], ()))))), ()) with
  | none => none
  | some r1 =>
   match sZ (r1.1.1, ([], (([([98, 47] : List UInt8)] : List (List UInt8)), (([r0.1.2.1, r1.1.2.1] : List Int), (([((0, (0, ())), ((0, (0, ())), ())), ((0, (0, ())), ((0, (0, ())), ()))] : List api_Sum), (([(4, ([], ([], (([], ([], ())), (([97, 47] : List UInt8), (([99, 47] : List UInt8), (0, ())))))))] : List ai), ()))))), ()) with
   | none => none
   | some r2 =>
    match vz (r2.1.1, r0.1.2.1, ()) with
    | none => none
    | some r3 =>
     match vz (r3.1, r1.1.2.1, ()) with
     | none => none
     | some r4 =>
      some ((r4.1, (r2.1.2.1, ((2, (2, (1, ()))), ()))), ())
def xS (s : aO) : Option (Bool × Unit) :=
 bif decide (s.2.1 >= 0) then
  let t0 : Bool := (decide (s.2.1 < ((List.length s.1.1) : Int)))
  bif t0 then
   bif decide (0 <= s.2.1) && decide (s.2.1 < (List.length s.1.1 : Int)) then
    let t1 : ak := (List.getD s.1.1 (Int.toNat s.2.1) (false, (false, (0, (([], ([], ([], ([], ([], ()))))), ())))))
    some (t1.1, ())
   else none
  else
   some (false, ())
 else
  some (false, ())
def mS (s : aO) : Option (api_Node × Int × Unit) :=
 match xS (s.1, s.2.1, ()) with
 | none => none
 | some r0 =>
  bif !r0.1 then
   some (([], ([], ([], ([], ([], ()))))), 110, ())
  else
   bif decide (0 <= s.2.1) && decide (s.2.1 < (List.length s.1.1 : Int)) then
    let t1 : ak := (List.getD s.1.1 (Int.toNat s.2.1) (false, (false, (0, (([], ([], ([], ([], ([], ()))))), ())))))
    bif t1.2.1 then
     some (([], ([], ([], ([], ([], ()))))), 112, ())
    else
     bif decide (0 <= s.2.1) && decide (s.2.1 < (List.length s.1.1 : Int)) then
      let t2 : ak := (List.getD s.1.1 (Int.toNat s.2.1) (false, (false, (0, (([], ([], ([], ([], ([], ()))))), ())))))
      some (t2.2.2.2.1, 0, ())
     else none
   else none
def tl (s : api_Node × Unit) : Option (Bool × Unit) :=
 let t0 : Bool := (decide ((((List.length s.1.2.2.1) : Int) : Int) = 0))
 some (t0, ())
def de (s : aa) : Option (Int × Unit) := some ((fun a b => Lib.compareBytes a b) s.1 s.2.1, ())
def sc (s : aa) : Option (Int × Unit) :=
 match de (s.1, s.2.1, ()) with
 | none => none
 | some r0 =>
  some (r0.1, ())
def ln (s : ae × List UInt8 × Unit) : Option (Int × Unit) :=
 match sc (s.1.1, s.2.1, ()) with
 | none => none
 | some r0 =>
  some (r0.1, ())
def bn (s : List ae × List UInt8 × Int × Int × Int × Unit) : Option ((List ae × List UInt8 × Int × Int × Int × Unit) ⊕ ((List ae × List UInt8 × Int × Int × Unit) ⊕ Unit)) :=
 let t0 : Bool := decide (s.2.2.2.1 < s.2.2.2.2.1)
 bif t0 then
  let t1 : Int := IntKind.i64.wrap (s.2.2.2.1 + s.2.2.2.2.1)
  let t2 : Int := (Int.fdiv (IntKind.u64.wrap t1) (2 ^ (min (Int.toNat 1) IntKind.u64.bits)))
  bif (decide (0 <= (IntKind.i64.wrap t2)) && decide (((IntKind.i64.wrap t2) : Int) < (List.length s.1 : Int))) then
   let t3 : ae := (List.getD s.1 (Int.toNat (IntKind.i64.wrap t2)) ([], ([], (0, ()))))
   match ln (t3, s.2.1, ()) with
   | none => none
   | some r4 =>
    bif decide (r4.1 < 0) then
     let t5 : Int := IntKind.i64.wrap ((IntKind.i64.wrap t2) + 1)
     some (.inl (s.1, s.2.1, s.2.2.1, t5, s.2.2.2.2.1, ()))
    else
     some (.inl (s.1, s.2.1, s.2.2.1, s.2.2.2.1, (IntKind.i64.wrap t2), ()))
  else none
 else
  some (.inr (.inl (s.1, s.2.1, s.2.2.1, s.2.2.2.1, ())))
def bH (s : List ae × List UInt8 × Int × Int × Int × Unit) : Option ((List ae × List UInt8 × Int × Int × Unit) ⊕ Unit) := aP bn s
def bu (s : List ae × List UInt8 × Unit) : Option (Int × Bool × Unit) :=
 match bH (s.1, s.2.1, ((List.length s.1) : Int), 0, ((List.length s.1) : Int), ()) with
 | none => none
 | some (.inl z0) =>
  bif decide (z0.2.2.2.1 < z0.2.2.1) then
   bif decide (0 <= z0.2.2.2.1) && decide (z0.2.2.2.1 < (List.length z0.1 : Int)) then
    let t1 : ae := (List.getD z0.1 (Int.toNat z0.2.2.2.1) ([], ([], (0, ()))))
    match ln (t1, z0.2.1, ()) with
    | none => none
    | some r2 =>
     some (z0.2.2.2.1, (decide (r2.1 = 0)), ())
   else none
  else
   some (z0.2.2.2.1, false, ())
 | some (.inr z0) =>
  none
def tf (s : List ae × List UInt8 × Unit) : Option (Int × Bool × Unit) :=
 match bu (s.1, s.2.1, ()) with
 | none => none
 | some r0 =>
  some (r0.1, r0.2.1, ())
def adx (s : List ae × List UInt8 × Unit) : Option (ae × Bool × Unit) :=
 match tf (s.1, s.2.1, ()) with
 | none => none
 | some r0 =>
  bif r0.2.1 then
   bif decide (0 <= r0.1) && decide (r0.1 < (List.length s.1 : Int)) then
    let t1 : ae := (List.getD s.1 (Int.toNat r0.1) ([], ([], (0, ()))))
    some (t1, true, ())
   else none
  else
   some (([], ([], (0, ()))), false, ())
def cN (s : List ai × Unit) : Option (List ai × Unit) :=
 some (s.1, ())
def uJ (s : aa × List UInt8 × Unit) : Option (Bool × Unit) :=
 bif (!(Op.bytesLess s.2.1 s.1.1)) then
  let t0 : Bool := decide ((s.1.2.1 : List UInt8) = [])
  bif !t0 then
   some ((Op.bytesLess s.2.1 s.1.2.1), ())
  else
   some (true, ())
 else
  some (false, ())
def pK (s : Int × Bool × Bool × List UInt8 × List UInt8 × Int × List UInt8 × Bool × Int × Unit) : Option (Bool × Bool × List UInt8 × List UInt8 × Int × List UInt8 × Bool × Int × Unit) :=
 bif !s.2.2.2.2.2.2.2.1 then
  some (s.2.1, s.2.2.1, s.2.2.2.1, s.2.2.2.2.1, s.2.2.2.2.2.1, s.2.2.2.2.2.2.1, true, s.1, ())
 else
  some (s.2.1, s.2.2.1, s.2.2.2.1, s.2.2.2.2.1, s.2.2.2.2.2.1, s.2.2.2.2.2.2.1, s.2.2.2.2.2.2.2.1, s.2.2.2.2.2.2.2.2.1, ())
def vW (s : ai × Bool × Bool × List UInt8 × List UInt8 × Int × List UInt8 × Bool × Int × Unit) : Option (Bool × Bool × Bool × List UInt8 × List UInt8 × Int × List UInt8 × Bool × Int × Unit) :=
 match uJ (s.1.2.2.2.1, s.2.2.2.2.2.2.1, ()) with
 | none => none
 | some r0 =>
  bif r0.1 then
   match pK (s.1.2.2.2.2.2.2.1, s.2.1, s.2.2.1, s.2.2.2.1, s.2.2.2.2.1, s.2.2.2.2.2.1, s.2.2.2.2.2.2.1, s.2.2.2.2.2.2.2.1, s.2.2.2.2.2.2.2.2.1, ()) with
   | none => none
   | some r1 =>
    some (false, r1.1, r1.2.1, r1.2.2.1, r1.2.2.2.1, r1.2.2.2.2.1, r1.2.2.2.2.2.1, r1.2.2.2.2.2.2.1, r1.2.2.2.2.2.2.2.1, ())
  else
   some (false, s.2.1, s.2.2.1, s.2.2.2.1, s.2.2.2.2.1, s.2.2.2.2.2.1, s.2.2.2.2.2.2.1, s.2.2.2.2.2.2.2.1, s.2.2.2.2.2.2.2.2.1, ())
def bG (s : aa) : Option (Bool × Unit) :=
 let t0 : Bool := (decide ((((List.length s.1) : Int) : Int) >= ((List.length s.2.1) : Int)))
 bif t0 then
  bif (decide ((0 : Int) <= ((List.length s.2.1) : Int)) && decide ((((List.length s.2.1) : Int) : Int) <= (List.length s.1 : Int))) then
   let t1 : List UInt8 := (List.drop 0 (List.take (Int.toNat ((List.length s.2.1) : Int)) s.1))
   some ((decide ((t1 : List UInt8) = s.2.1)), ())
  else none
 else
  some (false, ())
def gE (s : aa) : Option (List UInt8 × Bool × Unit) :=
 match bG (s.1, s.2.1, ()) with
 | none => none
 | some r0 =>
  bif !r0.1 then
   some (s.1, false, ())
  else
   bif (decide (0 <= ((List.length s.2.1) : Int)) && decide ((((List.length s.2.1) : Int) : Int) <= (List.length s.1 : Int)) && decide (((List.length s.1 : Int) : Int) <= (List.length s.1 : Int))) then
    let t1 : List UInt8 := (List.drop (Int.toNat ((List.length s.2.1) : Int)) (List.take (Int.toNat (List.length s.1 : Int)) s.1))
    some (t1, true, ())
   else none
def oB (s : aa) : Option (List UInt8 × Bool × Unit) :=
 match gE (s.1, s.2.1, ()) with
 | none => none
 | some r0 =>
  some (r0.1, r0.2.1, ())
def sD (s : List UInt8 × List UInt8 × List UInt8 × Unit) : Option (List UInt8 × Bool × Unit) :=
 match oB (s.1, s.2.1, ()) with
 | none => none
 | some r0 =>
  bif !r0.2.1 then
   some ([], false, ())
  else
   bif decide (List.length s.2.2.1 + List.length r0.1 <= aw) then
    some ((s.2.2.1 ++ r0.1), true, ())
   else none
def vD (s : ai × Bool × Bool × List UInt8 × List UInt8 × Int × List UInt8 × Bool × Int × Unit) : Option (Bool × Bool × Bool × List UInt8 × List UInt8 × Int × List UInt8 × Bool × Int × Unit) :=
 match sD (s.2.2.2.2.2.2.1, s.1.2.2.2.2.2.1, s.1.2.2.2.2.1, ()) with
 | none => none
 | some r0 =>
  bif r0.2.1 then
   some (false, s.2.1, s.2.2.1, s.2.2.2.1, s.2.2.2.2.1, s.2.2.2.2.2.1, r0.1, s.2.2.2.2.2.2.2.1, s.2.2.2.2.2.2.2.2.1, ())
  else
   some (false, s.2.1, s.2.2.1, s.2.2.2.1, s.2.2.2.2.1, s.2.2.2.2.2.1, s.2.2.2.2.2.2.1, s.2.2.2.2.2.2.2.1, s.2.2.2.2.2.2.2.2.1, ())
def kX (s : aa) : Option (Bool × Unit) :=
 match bG (s.1, s.2.1, ()) with
 | none => none
 | some r0 =>
  some (r0.1, ())
def vV (s : ai × Bool × Bool × List UInt8 × List UInt8 × Int × List UInt8 × Bool × Int × Unit) : Option (Bool × Bool × Bool × List UInt8 × List UInt8 × Int × List UInt8 × Bool × Int × Unit) :=
 match kX (s.2.2.2.2.2.2.1, s.1.2.2.2.2.1, ()) with
 | none => none
 | some r0 =>
  bif !r0.1 then
   match vD (s.1, s.2.1, s.2.2.1, s.2.2.2.1, s.2.2.2.2.1, s.2.2.2.2.2.1, s.2.2.2.2.2.2.1, s.2.2.2.2.2.2.2.1, s.2.2.2.2.2.2.2.2.1, ()) with
   | none => none
   | some r1 =>
    some (r1.1, r1.2.1, r1.2.2.1, r1.2.2.2.1, r1.2.2.2.2.1, r1.2.2.2.2.2.1, r1.2.2.2.2.2.2.1, r1.2.2.2.2.2.2.2.1, r1.2.2.2.2.2.2.2.2.1, ())
  else
   some (true, s.2.1, s.2.2.1, s.2.2.2.1, s.2.2.2.2.1, s.2.2.2.2.2.1, s.2.2.2.2.2.2.1, s.2.2.2.2.2.2.2.1, s.2.2.2.2.2.2.2.2.1, ())
def vU (s : ai × Bool × Bool × List UInt8 × List UInt8 × Int × List UInt8 × Bool × Int × Unit) : Option (Bool × Bool × Bool × List UInt8 × List UInt8 × Int × List UInt8 × Bool × Int × Unit) :=
 match uJ (s.1.2.2.2.1, s.2.2.2.2.2.2.1, ()) with
 | none => none
 | some r0 =>
  some (r0.1, s.2.1, s.2.2.1, s.2.2.2.1, s.2.2.2.2.1, s.2.2.2.2.2.1, s.2.2.2.2.2.2.1, s.2.2.2.2.2.2.2.1, s.2.2.2.2.2.2.2.2.1, ())
def abc (s : ai × Bool × Bool × List UInt8 × List UInt8 × Int × List UInt8 × Bool × Int × Unit) : Option (Bool × Bool × Bool × List UInt8 × List UInt8 × Int × List UInt8 × Bool × Int × Unit) :=
 let t0 : Bool := decide ((s.1.2.1 : List UInt8) = s.2.2.2.2.2.2.1)
 some (t0, s.2.1, s.2.2.1, s.2.2.2.1, s.2.2.2.2.1, s.2.2.2.2.2.1, s.2.2.2.2.2.2.1, s.2.2.2.2.2.2.2.1, s.2.2.2.2.2.2.2.2.1, ())
def vT (s : ai × Bool × Bool × List UInt8 × List UInt8 × Int × List UInt8 × Bool × Int × Unit) : Option (Bool × Bool × Bool × List UInt8 × List UInt8 × Int × List UInt8 × Bool × Int × Unit) :=
 let t0 : Bool := (!decide ((s.1.2.1 : List UInt8) = s.2.2.2.2.2.2.1))
 bif t0 then
  some (false, s.2.1, s.2.2.1, s.2.2.2.1, s.2.2.2.2.1, s.2.2.2.2.2.1, s.2.2.2.2.2.2.1, s.2.2.2.2.2.2.2.1, s.2.2.2.2.2.2.2.2.1, ())
 else
  match pK (s.1.2.2.2.2.2.2.1, s.2.1, s.2.2.1, s.2.2.2.1, s.2.2.2.2.1, s.2.2.2.2.2.1, s.2.2.2.2.2.2.1, s.2.2.2.2.2.2.2.1, s.2.2.2.2.2.2.2.2.1, ()) with
  | none => none
  | some r1 =>
   some (true, r1.1, true, r1.2.2.1, s.1.2.2.1, r1.2.2.2.2.2.2.2.1, r1.2.2.2.2.2.1, r1.2.2.2.2.2.2.1, r1.2.2.2.2.2.2.2.1, ())
def bW (s : Bool × Int × Bool × Bool × List UInt8 × List UInt8 × Int × List UInt8 × Bool × Int × Bool × Bool × List UInt8 × List UInt8 × Int × List UInt8 × Bool × Int × Unit) : Option (Bool × Int × Bool × Bool × List UInt8 × List UInt8 × Int × List UInt8 × Bool × Int × Bool × Bool × List UInt8 × List UInt8 × Int × List UInt8 × Bool × Int × Unit) :=
 bif s.1 then
  bif decide (s.2.1 = -1) then
   some (true, 0, s.2.2.1, s.2.2.2.1, s.2.2.2.2.1, s.2.2.2.2.2.1, s.2.2.2.2.2.2.1, s.2.2.2.2.2.2.2.1, s.2.2.2.2.2.2.2.2.1, s.2.2.2.2.2.2.2.2.2.1, s.2.2.2.2.2.2.2.2.2.2.1, s.2.2.2.2.2.2.2.2.2.2.2.1, s.2.2.2.2.2.2.2.2.2.2.2.2.1, s.2.2.2.2.2.2.2.2.2.2.2.2.2.1, s.2.2.2.2.2.2.2.2.2.2.2.2.2.2.1, s.2.2.2.2.2.2.2.2.2.2.2.2.2.2.2.1, s.2.2.2.2.2.2.2.2.2.2.2.2.2.2.2.2.1, s.2.2.2.2.2.2.2.2.2.2.2.2.2.2.2.2.2.1, ())
  else none
 else
  bif s.2.2.2.1 then
   bif decide (s.2.1 = -1) then
    some (false, 1, s.2.2.1, s.2.2.2.1, s.2.2.2.2.1, s.2.2.2.2.2.1, s.2.2.2.2.2.2.1, s.2.2.2.2.2.2.2.1, s.2.2.2.2.2.2.2.2.1, s.2.2.2.2.2.2.2.2.2.1, true, true, s.2.2.2.2.1, s.2.2.2.2.2.1, s.2.2.2.2.2.2.1, [], false, 0, ())
   else none
  else
   bif decide (s.2.1 = -1) then
    some (false, 1, s.2.2.1, s.2.2.2.1, s.2.2.2.2.1, s.2.2.2.2.2.1, s.2.2.2.2.2.2.1, s.2.2.2.2.2.2.2.1, s.2.2.2.2.2.2.2.2.1, s.2.2.2.2.2.2.2.2.2.1, true, false, [], [], 0, [], false, 0, ())
   else none

def bZ (s : Int × ai × Int × Bool × Bool × List UInt8 × List UInt8 × Int × List UInt8 × Bool × Int × Bool × Bool × List UInt8 × List UInt8 × Int × List UInt8 × Bool × Int × Unit) : Option (Bool × Int × Bool × Bool × List UInt8 × List UInt8 × Int × List UInt8 × Bool × Int × Bool × Bool × List UInt8 × List UInt8 × Int × List UInt8 × Bool × Int × Unit) :=
 bif decide (s.2.2.1 = 0) then
  bif decide (s.2.2.1 = 0) then
   bif decide (0 <= s.2.1.1) && decide (s.2.1.1 < 7) then
    bif (Nat.beq (Int.toNat s.2.1.1) 6) then
     match vW (s.2.1, s.2.2.2.1, s.2.2.2.2.1, s.2.2.2.2.2.1, s.2.2.2.2.2.2.1, s.2.2.2.2.2.2.2.1, s.2.2.2.2.2.2.2.2.1, s.2.2.2.2.2.2.2.2.2.1, s.2.2.2.2.2.2.2.2.2.2.1, ()) with
     | none => none
     | some r0 =>
      bW ((!r0.1), (-1 : Int), r0.2.1, r0.2.2.1, r0.2.2.2.1, r0.2.2.2.2.1, r0.2.2.2.2.2.1, r0.2.2.2.2.2.2.1, r0.2.2.2.2.2.2.2.1, r0.2.2.2.2.2.2.2.2.1, s.2.2.2.2.2.2.2.2.2.2.2.1, s.2.2.2.2.2.2.2.2.2.2.2.2.1, s.2.2.2.2.2.2.2.2.2.2.2.2.2.1, s.2.2.2.2.2.2.2.2.2.2.2.2.2.2.1, s.2.2.2.2.2.2.2.2.2.2.2.2.2.2.2.1, s.2.2.2.2.2.2.2.2.2.2.2.2.2.2.2.2.1, s.2.2.2.2.2.2.2.2.2.2.2.2.2.2.2.2.2.1, s.2.2.2.2.2.2.2.2.2.2.2.2.2.2.2.2.2.2.1, ())
    else
     bif (Nat.beq (Int.toNat s.2.1.1) 5) then
      match vD (s.2.1, s.2.2.2.1, s.2.2.2.2.1, s.2.2.2.2.2.1, s.2.2.2.2.2.2.1, s.2.2.2.2.2.2.2.1, s.2.2.2.2.2.2.2.2.1, s.2.2.2.2.2.2.2.2.2.1, s.2.2.2.2.2.2.2.2.2.2.1, ()) with
      | none => none
      | some r0 =>
       bW ((!r0.1), (-1 : Int), r0.2.1, r0.2.2.1, r0.2.2.2.1, r0.2.2.2.2.1, r0.2.2.2.2.2.1, r0.2.2.2.2.2.2.1, r0.2.2.2.2.2.2.2.1, r0.2.2.2.2.2.2.2.2.1, s.2.2.2.2.2.2.2.2.2.2.2.1, s.2.2.2.2.2.2.2.2.2.2.2.2.1, s.2.2.2.2.2.2.2.2.2.2.2.2.2.1, s.2.2.2.2.2.2.2.2.2.2.2.2.2.2.1, s.2.2.2.2.2.2.2.2.2.2.2.2.2.2.2.1, s.2.2.2.2.2.2.2.2.2.2.2.2.2.2.2.2.1, s.2.2.2.2.2.2.2.2.2.2.2.2.2.2.2.2.2.1, s.2.2.2.2.2.2.2.2.2.2.2.2.2.2.2.2.2.2.1, ())
     else
      bif (Nat.beq (Int.toNat s.2.1.1) 4) then
       match vV (s.2.1, s.2.2.2.1, s.2.2.2.2.1, s.2.2.2.2.2.1, s.2.2.2.2.2.2.1, s.2.2.2.2.2.2.2.1, s.2.2.2.2.2.2.2.2.1, s.2.2.2.2.2.2.2.2.2.1, s.2.2.2.2.2.2.2.2.2.2.1, ()) with
       | none => none
       | some r0 =>
        bW ((!r0.1), (-1 : Int), r0.2.1, r0.2.2.1, r0.2.2.2.1, r0.2.2.2.2.1, r0.2.2.2.2.2.1, r0.2.2.2.2.2.2.1, r0.2.2.2.2.2.2.2.1, r0.2.2.2.2.2.2.2.2.1, s.2.2.2.2.2.2.2.2.2.2.2.1, s.2.2.2.2.2.2.2.2.2.2.2.2.1, s.2.2.2.2.2.2.2.2.2.2.2.2.2.1, s.2.2.2.2.2.2.2.2.2.2.2.2.2.2.1, s.2.2.2.2.2.2.2.2.2.2.2.2.2.2.2.1, s.2.2.2.2.2.2.2.2.2.2.2.2.2.2.2.2.1, s.2.2.2.2.2.2.2.2.2.2.2.2.2.2.2.2.2.1, s.2.2.2.2.2.2.2.2.2.2.2.2.2.2.2.2.2.2.1, ())
      else
       bif (Nat.beq (Int.toNat s.2.1.1) 3) then
        match vU (s.2.1, s.2.2.2.1, s.2.2.2.2.1, s.2.2.2.2.2.1, s.2.2.2.2.2.2.1, s.2.2.2.2.2.2.2.1, s.2.2.2.2.2.2.2.2.1, s.2.2.2.2.2.2.2.2.2.1, s.2.2.2.2.2.2.2.2.2.2.1, ()) with
        | none => none
        | some r0 =>
         bW ((!r0.1), (-1 : Int), r0.2.1, r0.2.2.1, r0.2.2.2.1, r0.2.2.2.2.1, r0.2.2.2.2.2.1, r0.2.2.2.2.2.2.1, r0.2.2.2.2.2.2.2.1, r0.2.2.2.2.2.2.2.2.1, s.2.2.2.2.2.2.2.2.2.2.2.1, s.2.2.2.2.2.2.2.2.2.2.2.2.1, s.2.2.2.2.2.2.2.2.2.2.2.2.2.1, s.2.2.2.2.2.2.2.2.2.2.2.2.2.2.1, s.2.2.2.2.2.2.2.2.2.2.2.2.2.2.2.1, s.2.2.2.2.2.2.2.2.2.2.2.2.2.2.2.2.1, s.2.2.2.2.2.2.2.2.2.2.2.2.2.2.2.2.2.1, s.2.2.2.2.2.2.2.2.2.2.2.2.2.2.2.2.2.2.1, ())
       else
        bif (Nat.beq (Int.toNat s.2.1.1) 2) then
         match abc (s.2.1, s.2.2.2.1, s.2.2.2.2.1, s.2.2.2.2.2.1, s.2.2.2.2.2.2.1, s.2.2.2.2.2.2.2.1, s.2.2.2.2.2.2.2.2.1, s.2.2.2.2.2.2.2.2.2.1, s.2.2.2.2.2.2.2.2.2.2.1, ()) with
         | none => none
         | some r0 =>
          bW ((!r0.1), (-1 : Int), r0.2.1, r0.2.2.1, r0.2.2.2.1, r0.2.2.2.2.1, r0.2.2.2.2.2.1, r0.2.2.2.2.2.2.1, r0.2.2.2.2.2.2.2.1, r0.2.2.2.2.2.2.2.2.1, s.2.2.2.2.2.2.2.2.2.2.2.1, s.2.2.2.2.2.2.2.2.2.2.2.2.1, s.2.2.2.2.2.2.2.2.2.2.2.2.2.1, s.2.2.2.2.2.2.2.2.2.2.2.2.2.2.1, s.2.2.2.2.2.2.2.2.2.2.2.2.2.2.2.1, s.2.2.2.2.2.2.2.2.2.2.2.2.2.2.2.2.1, s.2.2.2.2.2.2.2.2.2.2.2.2.2.2.2.2.2.1, s.2.2.2.2.2.2.2.2.2.2.2.2.2.2.2.2.2.2.1, ())
        else
         bif (Nat.beq (Int.toNat s.2.1.1) 1) then
          match vT (s.2.1, s.2.2.2.1, s.2.2.2.2.1, s.2.2.2.2.2.1, s.2.2.2.2.2.2.1, s.2.2.2.2.2.2.2.1, s.2.2.2.2.2.2.2.2.1, s.2.2.2.2.2.2.2.2.2.1, s.2.2.2.2.2.2.2.2.2.2.1, ()) with
          | none => none
          | some r0 =>
           bW ((!r0.1), (-1 : Int), r0.2.1, r0.2.2.1, r0.2.2.2.1, r0.2.2.2.2.1, r0.2.2.2.2.2.1, r0.2.2.2.2.2.2.1, r0.2.2.2.2.2.2.2.1, r0.2.2.2.2.2.2.2.2.1, s.2.2.2.2.2.2.2.2.2.2.2.1, s.2.2.2.2.2.2.2.2.2.2.2.2.1, s.2.2.2.2.2.2.2.2.2.2.2.2.2.1, s.2.2.2.2.2.2.2.2.2.2.2.2.2.2.1, s.2.2.2.2.2.2.2.2.2.2.2.2.2.2.2.1, s.2.2.2.2.2.2.2.2.2.2.2.2.2.2.2.2.1, s.2.2.2.2.2.2.2.2.2.2.2.2.2.2.2.2.2.1, s.2.2.2.2.2.2.2.2.2.2.2.2.2.2.2.2.2.2.1, ())
         else
          bif (Nat.beq (Int.toNat s.2.1.1) 0) then
           none
          else none
   else none
  else none
 else none
def bB (s : Int × Int × List ai × Bool × Bool × List UInt8 × List UInt8 × Int × List UInt8 × Bool × Int × Bool × Bool × List UInt8 × List UInt8 × Int × List UInt8 × Bool × Int × Unit) : Option ((Int × Int × List ai × Bool × Bool × List UInt8 × List UInt8 × Int × List UInt8 × Bool × Int × Bool × Bool × List UInt8 × List UInt8 × Int × List UInt8 × Bool × Int × Unit) ⊕ ((Int × List ai × Bool × Bool × List UInt8 × List UInt8 × Int × List UInt8 × Bool × Int × Bool × Bool × List UInt8 × List UInt8 × Int × List UInt8 × Bool × Int × Unit) ⊕ (Int × List ai × Bool × Bool × List UInt8 × List UInt8 × Int × List UInt8 × Bool × Int × Bool × Bool × List UInt8 × List UInt8 × Int × List UInt8 × Bool × Int × Unit))) :=
 bif decide (s.1 >= 0) then
  bif decide (0 <= s.1) && decide (s.1 < (List.length s.2.2.1 : Int)) then
   let t0 : ai := (List.getD s.2.2.1 (Int.toNat s.1) (0, ([], ([], (([], ([], ())), ([], ([], (0, ()))))))))
   match bZ (s.1, t0, s.2.1, s.2.2.2.1, s.2.2.2.2.1, s.2.2.2.2.2.1, s.2.2.2.2.2.2.1, s.2.2.2.2.2.2.2.1, s.2.2.2.2.2.2.2.2.1, s.2.2.2.2.2.2.2.2.2.1, s.2.2.2.2.2.2.2.2.2.2.1, s.2.2.2.2.2.2.2.2.2.2.2.1, s.2.2.2.2.2.2.2.2.2.2.2.2.1, s.2.2.2.2.2.2.2.2.2.2.2.2.2.1, s.2.2.2.2.2.2.2.2.2.2.2.2.2.2.1, s.2.2.2.2.2.2.2.2.2.2.2.2.2.2.2.1, s.2.2.2.2.2.2.2.2.2.2.2.2.2.2.2.2.1, s.2.2.2.2.2.2.2.2.2.2.2.2.2.2.2.2.2.1, s.2.2.2.2.2.2.2.2.2.2.2.2.2.2.2.2.2.2.1, ()) with
   | none => none
   | some r1 =>
    bif !r1.1 then
     some (.inr (.inl (r1.2.1, s.2.2.1, r1.2.2.1, r1.2.2.2.1, r1.2.2.2.2.1, r1.2.2.2.2.2.1, r1.2.2.2.2.2.2.1, r1.2.2.2.2.2.2.2.1, r1.2.2.2.2.2.2.2.2.1, r1.2.2.2.2.2.2.2.2.2.1, r1.2.2.2.2.2.2.2.2.2.2.1, r1.2.2.2.2.2.2.2.2.2.2.2.1, r1.2.2.2.2.2.2.2.2.2.2.2.2.1, r1.2.2.2.2.2.2.2.2.2.2.2.2.2.1, r1.2.2.2.2.2.2.2.2.2.2.2.2.2.2.1, r1.2.2.2.2.2.2.2.2.2.2.2.2.2.2.2.1, r1.2.2.2.2.2.2.2.2.2.2.2.2.2.2.2.2.1, r1.2.2.2.2.2.2.2.2.2.2.2.2.2.2.2.2.2.1, ())))
    else
     some (.inl ((IntKind.i64.wrap (s.1 - 1)), r1.2.1, s.2.2.1, r1.2.2.1, r1.2.2.2.1, r1.2.2.2.2.1, r1.2.2.2.2.2.1, r1.2.2.2.2.2.2.1, r1.2.2.2.2.2.2.2.1, r1.2.2.2.2.2.2.2.2.1, r1.2.2.2.2.2.2.2.2.2.1, r1.2.2.2.2.2.2.2.2.2.2.1, r1.2.2.2.2.2.2.2.2.2.2.2.1, r1.2.2.2.2.2.2.2.2.2.2.2.2.1, r1.2.2.2.2.2.2.2.2.2.2.2.2.2.1, r1.2.2.2.2.2.2.2.2.2.2.2.2.2.2.1, r1.2.2.2.2.2.2.2.2.2.2.2.2.2.2.2.1, r1.2.2.2.2.2.2.2.2.2.2.2.2.2.2.2.2.1, r1.2.2.2.2.2.2.2.2.2.2.2.2.2.2.2.2.2.1, ()))
  else none
 else
  some (.inr (.inr (s.2.1, s.2.2.1, s.2.2.2.1, s.2.2.2.2.1, s.2.2.2.2.2.1, s.2.2.2.2.2.2.1, s.2.2.2.2.2.2.2.1, s.2.2.2.2.2.2.2.2.1, s.2.2.2.2.2.2.2.2.2.1, s.2.2.2.2.2.2.2.2.2.2.1, s.2.2.2.2.2.2.2.2.2.2.2.1, s.2.2.2.2.2.2.2.2.2.2.2.2.1, s.2.2.2.2.2.2.2.2.2.2.2.2.2.1, s.2.2.2.2.2.2.2.2.2.2.2.2.2.2.1, s.2.2.2.2.2.2.2.2.2.2.2.2.2.2.2.1, s.2.2.2.2.2.2.2.2.2.2.2.2.2.2.2.2.1, s.2.2.2.2.2.2.2.2.2.2.2.2.2.2.2.2.2.1, s.2.2.2.2.2.2.2.2.2.2.2.2.2.2.2.2.2.2.1, ())))
def dj (s : Int × Int × List ai × Bool × Bool × List UInt8 × List UInt8 × Int × List UInt8 × Bool × Int × Bool × Bool × List UInt8 × List UInt8 × Int × List UInt8 × Bool × Int × Unit) : Option ((Int × List ai × Bool × Bool × List UInt8 × List UInt8 × Int × List UInt8 × Bool × Int × Bool × Bool × List UInt8 × List UInt8 × Int × List UInt8 × Bool × Int × Unit) ⊕ (Int × List ai × Bool × Bool × List UInt8 × List UInt8 × Int × List UInt8 × Bool × Int × Bool × Bool × List UInt8 × List UInt8 × Int × List UInt8 × Bool × Int × Unit)) := aP bB s
def ee (s : Int × List ai × Bool × Bool × List UInt8 × List UInt8 × Int × List UInt8 × Bool × Int × Bool × Bool × List UInt8 × List UInt8 × Int × List UInt8 × Bool × Int × Unit) : Option (Int × List ai × Bool × Bool × List UInt8 × List UInt8 × Int × List UInt8 × Bool × Int × Bool × Bool × List UInt8 × List UInt8 × Int × List UInt8 × Bool × Int × Unit) :=
 let t0 : Int := (IntKind.i64.wrap (((List.length s.2.1) : Int) - 1))
 match dj (t0, s.1, s.2.1, s.2.2.1, s.2.2.2.1, s.2.2.2.2.1, s.2.2.2.2.2.1, s.2.2.2.2.2.2.1, s.2.2.2.2.2.2.2.1, s.2.2.2.2.2.2.2.2.1, s.2.2.2.2.2.2.2.2.2.1, s.2.2.2.2.2.2.2.2.2.2.1, s.2.2.2.2.2.2.2.2.2.2.2.1, s.2.2.2.2.2.2.2.2.2.2.2.2.1, s.2.2.2.2.2.2.2.2.2.2.2.2.2.1, s.2.2.2.2.2.2.2.2.2.2.2.2.2.2.1, s.2.2.2.2.2.2.2.2.2.2.2.2.2.2.2.1, s.2.2.2.2.2.2.2.2.2.2.2.2.2.2.2.2.1, s.2.2.2.2.2.2.2.2.2.2.2.2.2.2.2.2.2.1, ()) with
 | none => none
 | some (.inl z1) =>
  some (z1.1, z1.2.1, z1.2.2.1, z1.2.2.2.1, z1.2.2.2.2.1, z1.2.2.2.2.2.1, z1.2.2.2.2.2.2.1, z1.2.2.2.2.2.2.2.1, z1.2.2.2.2.2.2.2.2.1, z1.2.2.2.2.2.2.2.2.2.1, z1.2.2.2.2.2.2.2.2.2.2.1, z1.2.2.2.2.2.2.2.2.2.2.2.1, z1.2.2.2.2.2.2.2.2.2.2.2.2.1, z1.2.2.2.2.2.2.2.2.2.2.2.2.2.1, z1.2.2.2.2.2.2.2.2.2.2.2.2.2.2.1, z1.2.2.2.2.2.2.2.2.2.2.2.2.2.2.2.1, z1.2.2.2.2.2.2.2.2.2.2.2.2.2.2.2.2.1, z1.2.2.2.2.2.2.2.2.2.2.2.2.2.2.2.2.2.1, ())
 | some (.inr z1) =>
  some (z1.1, z1.2.1, z1.2.2.1, z1.2.2.2.1, z1.2.2.2.2.1, z1.2.2.2.2.2.1, z1.2.2.2.2.2.2.1, z1.2.2.2.2.2.2.2.1, z1.2.2.2.2.2.2.2.2.1, z1.2.2.2.2.2.2.2.2.2.1, z1.2.2.2.2.2.2.2.2.2.2.1, z1.2.2.2.2.2.2.2.2.2.2.2.1, z1.2.2.2.2.2.2.2.2.2.2.2.2.1, z1.2.2.2.2.2.2.2.2.2.2.2.2.2.1, z1.2.2.2.2.2.2.2.2.2.2.2.2.2.2.1, z1.2.2.2.2.2.2.2.2.2.2.2.2.2.2.2.1, z1.2.2.2.2.2.2.2.2.2.2.2.2.2.2.2.2.1, z1.2.2.2.2.2.2.2.2.2.2.2.2.2.2.2.2.2.1, ())
def aco (s : List UInt8 × List ai × Unit) : Option (eo × Unit) :=
 match cN (s.2.1, ()) with
 | none => none
 | some r0 =>
  match ee (0, r0.1, false, false, s.1, [], 0, s.1, false, 0, false, false, [], [], 0, [], false, 0, ()) with
  | none => none
  | some r1 =>
   bif decide (r1.1 = 0) then
    some ((r1.2.2.1, (r1.2.2.2.1, ((r1.2.2.2.2.1, (r1.2.2.2.2.2.1, (r1.2.2.2.2.2.2.1, ()))), (r1.2.2.2.2.2.2.2.1, (r1.2.2.2.2.2.2.2.2.1, (r1.2.2.2.2.2.2.2.2.2.1, ())))))), ())
   else
    bif decide (r1.1 = 1) then
     some ((r1.2.2.2.2.2.2.2.2.2.2.1, (r1.2.2.2.2.2.2.2.2.2.2.2.1, ((r1.2.2.2.2.2.2.2.2.2.2.2.2.1, (r1.2.2.2.2.2.2.2.2.2.2.2.2.2.1, (r1.2.2.2.2.2.2.2.2.2.2.2.2.2.2.1, ()))), (r1.2.2.2.2.2.2.2.2.2.2.2.2.2.2.2.1, (r1.2.2.2.2.2.2.2.2.2.2.2.2.2.2.2.2.1, (r1.2.2.2.2.2.2.2.2.2.2.2.2.2.2.2.2.2.1, ())))))), ())
    else none
def jM (s : List UInt8 × Unit) : Option (Bool × Unit) :=
 some ((!decide ((s.1 : List UInt8) = s.1)), ())
def rY (s : aa) : Option (Bool × Unit) :=
 match jM (s.1, ()) with
 | none => none
 | some r0 =>
  bif r0.1 then
   match jM (s.2.1, ()) with
   | none => none
   | some r1 =>
    bif (!(!r1.1)) then
     some ((Op.bytesLess s.1 s.2.1), ())
    else
     some (true, ())
  else
   some ((Op.bytesLess s.1 s.2.1), ())
def lC (s : List UInt8 × Unit) : Option (Bool × Unit) :=
 some ((!decide ((s.1 : List UInt8) = s.1)), ())
def bV (s : (List (List UInt8)) × List UInt8 × Int × Int × Int × Unit) : Option (((List (List UInt8)) × List UInt8 × Int × Int × Int × Unit) ⊕ (((List (List UInt8)) × List UInt8 × Int × Int × Unit) ⊕ Unit)) :=
 let t0 : Bool := decide (s.2.2.2.1 < s.2.2.2.2.1)
 bif t0 then
  let t1 : Int := IntKind.i64.wrap (s.2.2.2.1 + s.2.2.2.2.1)
  let t2 : Int := (Int.fdiv (IntKind.u64.wrap t1) (2 ^ (min (Int.toNat 1) IntKind.u64.bits)))
  bif (decide (0 <= (IntKind.i64.wrap t2)) && decide (((IntKind.i64.wrap t2) : Int) < (List.length s.1 : Int))) then
   let t3 : List UInt8 := (List.getD s.1 (Int.toNat (IntKind.i64.wrap t2)) [])
   match rY (t3, s.2.1, ()) with
   | none => none
   | some r4 =>
    bif r4.1 then
     let t5 : Int := IntKind.i64.wrap ((IntKind.i64.wrap t2) + 1)
     some (.inl (s.1, s.2.1, s.2.2.1, t5, s.2.2.2.2.1, ()))
    else
     some (.inl (s.1, s.2.1, s.2.2.1, s.2.2.2.1, (IntKind.i64.wrap t2), ()))
  else none
 else
  some (.inr (.inl (s.1, s.2.1, s.2.2.1, s.2.2.2.1, ())))
def dq (s : (List (List UInt8)) × List UInt8 × Int × Int × Int × Unit) : Option (((List (List UInt8)) × List UInt8 × Int × Int × Unit) ⊕ Unit) := aP bV s
def ck (s : (List (List UInt8)) × List UInt8 × Unit) : Option (Int × Bool × Unit) :=
 match dq (s.1, s.2.1, ((List.length s.1) : Int), 0, ((List.length s.1) : Int), ()) with
 | none => none
 | some (.inl z0) =>
  bif decide (z0.2.2.2.1 < z0.2.2.1) then
   bif decide (0 <= z0.2.2.2.1) && decide (z0.2.2.2.1 < (List.length z0.1 : Int)) then
    let t1 : List UInt8 := (List.getD z0.1 (Int.toNat z0.2.2.2.1) [])
    bif (!(decide ((t1 : List UInt8) = z0.2.1))) then
     bif decide (0 <= z0.2.2.2.1) && decide (z0.2.2.2.1 < (List.length z0.1 : Int)) then
      let t2 : List UInt8 := (List.getD z0.1 (Int.toNat z0.2.2.2.1) [])
      match lC (t2, ()) with
      | none => none
      | some r3 =>
       bif r3.1 then
        match lC (z0.2.1, ()) with
        | none => none
        | some r4 =>
         some (z0.2.2.2.1, r4.1, ())
       else
        some (z0.2.2.2.1, false, ())
     else none
    else
     some (z0.2.2.2.1, true, ())
   else none
  else
   some (z0.2.2.2.1, false, ())
 | some (.inr z0) =>
  none
def ahw (s : List UInt8 × (List (List UInt8)) × Unit) : Option (Int × Unit) :=
 match ck (s.2.1, s.1, ()) with
 | none => none
 | some r0 =>
  bif r0.2.1 then
   some ((IntKind.i64.wrap (r0.1 + 1)), ())
  else
   some (r0.1, ())
def tg (s : eo × ae × Bool × Unit) : Option (ae × Bool × Unit) :=
 bif s.1.1 then
  some (s.1.2.2.1, s.1.2.1, ())
 else
  bif !s.2.2.1 then
   some (([], ([], (0, ()))), false, ())
  else
   bif s.1.2.2.2.2.1 then
    some ((s.1.2.2.1.1, (s.2.1.2.1, (s.1.2.2.2.2.2.1, ()))), true, ())
   else
    some ((s.1.2.2.1.1, (s.2.1.2.1, (s.2.1.2.2.1, ()))), true, ())
def wI (s : List UInt8 × Int × List eo × az × List UInt8 × List UInt8 × Int × Bool × Int × Unit) : Option ((List UInt8 × Int × List eo × az × List UInt8 × List UInt8 × Int × Bool × Int × Unit) ⊕ ((Int × List eo × ae × Bool × Int × Unit) ⊕ Unit)) :=
 match mS (s.2.2.2.1.1, s.2.1, ()) with
 | none => none
 | some r0 =>
  bif (!decide (r0.2.1 = 0)) then
   some (.inr (.inl (r0.2.1, s.2.2.1, ([], ([], (0, ()))), false, 0, ())))
  else
   let t1 : Int := IntKind.i64.wrap (s.2.2.2.2.2.2.2.2.1 + 1)
   match tl (r0.1, ()) with
   | none => none
   | some r2 =>
    bif r2.1 then
     match adx (r0.1.1, s.1, ()) with
     | none => none
     | some r3 =>
      some (.inr (.inl (0, s.2.2.1, r3.1, r3.2.1, t1, ())))
    else
     match aco (s.1, r0.1.2.2.2.2.1, ()) with
     | none => none
     | some r3 =>
      bif r3.1.1 then
       some (.inr (.inl (0, (r3.1 :: s.2.2.1), ([], ([], (0, ()))), false, t1, ())))
      else
       match ahw (r3.1.2.2.2.1, r0.1.2.1, ()) with
       | none => none
       | some r4 =>
        bif decide (0 <= r4.1) && decide (r4.1 < (List.length r0.1.2.2.1 : Int)) then
         let t5 : Int := (List.getD r0.1.2.2.1 (Int.toNat r4.1) 0)
         some (.inl (r3.1.2.2.2.1, t5, (r3.1 :: s.2.2.1), s.2.2.2.1, s.2.2.2.2.1, s.2.2.2.2.2.1, s.2.2.2.2.2.2.1, s.2.2.2.2.2.2.2.1, t1, ()))
        else none
def aha (s : List UInt8 × Int × List eo × az × List UInt8 × List UInt8 × Int × Bool × Int × Unit) : Option ((Int × List eo × ae × Bool × Int × Unit) ⊕ Unit) := aP wI s
def th (s : Int × List eo × ae × Bool × Int × Unit) : Option ((Int × List eo × ae × Bool × Int × Unit) ⊕ ((Int × ae × Bool × Int × Unit) ⊕ Unit)) :=
 bif (List.isEmpty s.2.1) then
  some (.inr (.inl (s.1, s.2.2.1, s.2.2.2.1, s.2.2.2.2.1, ())))
 else
  match (List.head? s.2.1) with
  | none => none
  | some x0 =>
   let t1 : Bool := decide (s.2.2.2.2.1 > 0)
   bif t1 then
    match tg (x0, s.2.2.1, s.2.2.2.1, ()) with
    | none => none
    | some r2 =>
     some (.inl (s.1, (List.tail s.2.1), r2.1, r2.2.1, s.2.2.2.2.1, ()))
   else
    some (.inl (s.1, (List.tail s.2.1), s.2.2.1, s.2.2.2.1, s.2.2.2.2.1, ()))
def aas (s : Int × List eo × ae × Bool × Int × Unit) : Option ((Int × ae × Bool × Int × Unit) ⊕ Unit) := aP th s
def zq (s : az × List UInt8 × Unit) : Option lN :=
 match aha (s.2.1, s.1.2.1, [], s.1, [], [], 0, false, 0, ()) with
 | none => none
 | some (.inl z0) =>
  match aas (z0.1, z0.2.1, z0.2.2.1, z0.2.2.2.1, z0.2.2.2.2.1, ()) with
  | none => none
  | some (.inl z1) =>
   some (z1.2.1, z1.2.2.1, z1.2.2.2.1, z1.1, ())
  | some (.inr z1) =>
   none
 | some (.inr z0) =>
  none
def sG (s : Int × aa × List aa × aj × Int × Unit) : Option (aj × Int × Int × aa × List aa × Unit) :=
 some (s.2.2.2.1, s.2.2.2.2.1, s.1, s.2.1, s.2.2.1, ())
def lR (s : List aa × Unit) : Option (List aa × Unit) := bif (decide ((List.length ([] : List aa) + List.length s.1) * 32 <= aw)) then some (s.1, ()) else none
def mP (s : aa × Unit) : Option (Bool × Unit) :=
 let t0 : Bool := (!decide ((s.1.2.1 : List UInt8) = []))
 bif t0 then
  let t1 : Bool := (Op.bytesLess s.1.2.1 s.1.1 || decide ((s.1.2.1 : List UInt8) = s.1.1))
  some (t1, ())
 else
  some (false, ())
def iI (s : Int × Int × List aa × Unit) : Option ((Int × Int × List aa × Unit) ⊕ ((Int × List aa × Unit) ⊕ (List aa × Unit))) :=
 bif decide (s.2.1 < s.1) then
  bif decide (0 <= s.2.1) && decide (s.2.1 < (List.length s.2.2.1 : Int)) then
   let t0 : aa := (List.getD s.2.2.1 (Int.toNat s.2.1) ([], ([], ())))
   match mP (t0, ()) with
   | none => none
   | some r1 =>
    bif r1.1 then
     some (.inr (.inl (s.2.1, s.2.2.1, ())))
    else
     some (.inl (s.1, (IntKind.i64.wrap (s.2.1 + 1)), s.2.2.1, ()))
  else none
 else
  some (.inr (.inr (s.2.2.1, ())))
def iK (s : Int × Int × List aa × Unit) : Option ((Int × List aa × Unit) ⊕ (List aa × Unit)) := aP iI s
def kn (s : List aa × Unit) : Option (Int × List aa × Unit) :=
 match iK (((List.length s.1) : Int), 0, s.1, ()) with
 | none => none
 | some (.inl z0) =>
  some (z0.1, z0.2.1, ())
 | some (.inr z0) =>
  some ((-1 : Int), z0.1, ())
def ie (s : Int × Int × List aa × Unit) : Option ((Int × Int × List aa × Unit) ⊕ ((Int × List aa × Unit) ⊕ Unit)) :=
 let t0 : Bool := (decide (s.2.1 < ((List.length s.2.2.1) : Int)))
 bif t0 then
  bif decide (0 <= s.2.1) && decide (s.2.1 < (List.length s.2.2.1 : Int)) then
   let t1 : aa := (List.getD s.2.2.1 (Int.toNat s.2.1) ([], ([], ())))
   match mP (t1, ()) with
   | none => none
   | some r2 =>
    bif !r2.1 then
     bif decide (0 <= s.1) && decide (s.1 < (List.length s.2.2.1 : Int)) then
      some (.inl ((IntKind.i64.wrap (s.1 + 1)), (IntKind.i64.wrap (s.2.1 + 1)), (List.set s.2.2.1 (Int.toNat s.1) t1), ()))
     else none
    else
     some (.inl (s.1, (IntKind.i64.wrap (s.2.1 + 1)), s.2.2.1, ()))
  else none
 else
  some (.inr (.inl (s.1, s.2.2.1, ())))
def ii (s : Int × Int × List aa × Unit) : Option ((Int × List aa × Unit) ⊕ Unit) := aP ie s
def jt (s : List aa × Unit) : Option (List aa × Unit) :=
 match kn (s.1, ()) with
 | none => none
 | some r0 =>
  bif decide (r0.1 = (-1 : Int)) then
   some (r0.2.1, ())
  else
   match ii (r0.1, (IntKind.i64.wrap (r0.1 + 1)), r0.2.1, ()) with
   | none => none
   | some (.inl z1) =>
    bif (decide (0 <= z1.1) && decide (z1.1 <= (List.length z1.2.1 : Int)) && decide (((List.length z1.2.1 : Int) : Int) <= (List.length z1.2.1 : Int))) then
     let t2 : List aa := (List.take (Int.toNat z1.1) z1.2.1 ++ List.replicate ((Int.toNat (List.length z1.2.1 : Int)) - (Int.toNat z1.1)) (([] : List UInt8), (([] : List UInt8), ())) ++ List.drop ((Int.toNat z1.1) + ((Int.toNat (List.length z1.2.1 : Int)) - (Int.toNat z1.1))) z1.2.1)
     bif decide ((0 : Int) <= z1.1) && decide (z1.1 <= (List.length t2 : Int)) then
      some ((List.take (Int.toNat z1.1) t2), ())
     else none
    else none
   | some (.inr z1) =>
    none
def yL (s : fi) : Option (Int × Unit) :=
 bif (decide (0 <= (IntKind.u8.wrap s.1)) && decide (((IntKind.u8.wrap s.1) : Int) < (List.length ([0, 1, 2, 2, 3, 3, 3, 3, 4, 4, 4, 4, 4, 4, 4, 4, 5, 5, 5, 5, 5, 5, 5, 5, 5, 5, 5, 5, 5, 5, 5, 5, 6, 6, 6, 6, 6, 6, 6, 6, 6, 6, 6, 6, 6, 6, 6, 6, 6, 6, 6, 6, 6, 6, 6, 6, 6, 6, 6, 6, 6, 6, 6, 6, 7, 7, 7, 7, 7, 7, 7, 7, 7, 7, 7, 7, 7, 7, 7, 7, 7, 7, 7, 7, 7, 7, 7, 7, 7, 7, 7, 7, 7, 7, 7, 7, 7, 7, 7, 7, 7, 7, 7, 7, 7, 7, 7, 7, 7, 7, 7, 7, 7, 7, 7, 7, 7, 7, 7, 7, 7, 7, 7, 7, 7, 7, 7, 7, 8, 8, 8, 8, 8, 8, 8, 8, 8, 8, 8, 8, 8, 8, 8, 8, 8, 8, 8, 8, 8, 8, 8, 8, 8, 8, 8, 8, 8, 8, 8, 8, 8, 8, 8, 8, 8, 8, 8, 8, 8, 8, 8, 8, 8, 8, 8, 8, 8, 8, 8, 8, 8, 8, 8, 8, 8, 8, 8, 8, 8, 8, 8, 8, 8, 8, 8, 8, 8, 8, 8, 8, 8, 8, 8, 8, 8, 8, 8, 8, 8, 8, 8, 8, 8, 8, 8, 8, 8, 8, 8, 8, 8, 8, 8, 8, 8, 8, 8, 8, 8, 8, 8, 8, 8, 8, 8, 8, 8, 8, 8, 8, 8, 8, 8, 8, 8, 8, 8, 8, 8, 8, 8, 8, 8, 8, 8, 8] : List UInt8) : Int))) then
  let t0 : Int := ((List.getD ([0, 1, 2, 2, 3, 3, 3, 3, 4, 4, 4, 4, 4, 4, 4, 4, 5, 5, 5, 5, 5, 5, 5, 5, 5, 5, 5, 5, 5, 5, 5, 5, 6, 6, 6, 6, 6, 6, 6, 6, 6, 6, 6, 6, 6, 6, 6, 6, 6, 6, 6, 6, 6, 6, 6, 6, 6, 6, 6, 6, 6, 6, 6, 6, 7, 7, 7, 7, 7, 7, 7, 7, 7, 7, 7, 7, 7, 7, 7, 7, 7, 7, 7, 7, 7, 7, 7, 7, 7, 7, 7, 7, 7, 7, 7, 7, 7, 7, 7, 7, 7, 7, 7, 7, 7, 7, 7, 7, 7, 7, 7, 7, 7, 7, 7, 7, 7, 7, 7, 7, 7, 7, 7, 7, 7, 7, 7, 7, 8, 8, 8, 8, 8, 8, 8, 8, 8, 8, 8, 8, 8, 8, 8, 8, 8, 8, 8, 8, 8, 8, 8, 8, 8, 8, 8, 8, 8, 8, 8, 8, 8, 8, 8, 8, 8, 8, 8, 8, 8, 8, 8, 8, 8, 8, 8, 8, 8, 8, 8, 8, 8, 8, 8, 8, 8, 8, 8, 8, 8, 8, 8, 8, 8, 8, 8, 8, 8, 8, 8, 8, 8, 8, 8, 8, 8, 8, 8, 8, 8, 8, 8, 8, 8, 8, 8, 8, 8, 8, 8, 8, 8, 8, 8, 8, 8, 8, 8, 8, 8, 8, 8, 8, 8, 8, 8, 8, 8, 8, 8, 8, 8, 8, 8, 8, 8, 8, 8, 8, 8, 8, 8, 8, 8, 8, 8, 8] : List UInt8) (Int.toNat (IntKind.u8.wrap s.1)) 0).toNat : Int)
  let t1 : Int := IntKind.i64.wrap (s.2.1 + (IntKind.i64.wrap t0))
  some (t1, ())
 else none
def yK (s : fi) : Option (Int × Unit) :=
 bif decide (s.1 >= 256) then
  let t0 : Int := (Int.fdiv s.1 (2 ^ (min (Int.toNat 8) IntKind.u64.bits)))
  yL (t0, (IntKind.i64.wrap (s.2.1 + 8)), ())
 else
  yL (s.1, s.2.1, ())
def yJ (s : fi) : Option (Int × Unit) :=
 bif decide (s.1 >= 65536) then
  let t0 : Int := (Int.fdiv s.1 (2 ^ (min (Int.toNat 16) IntKind.u64.bits)))
  yK (t0, (IntKind.i64.wrap (s.2.1 + 16)), ())
 else
  yK (s.1, s.2.1, ())

def aeb (s : Int × Unit) : Option (Int × Unit) :=
 let t0 : Bool := decide (s.1 >= 4294967296)
 bif t0 then
  let t1 : Int := (Int.fdiv s.1 (2 ^ (min (Int.toNat 32) IntKind.u64.bits)))
  yJ (t1, 32, ())
 else
  yJ (s.1, 0, ())
def aaN (s : Int × Unit) : Option (Int × Unit) :=
 match aeb (s.1, ()) with
 | none => none
 | some r0 =>
  some (r0.1, ())
def yD (s : aa) : Option (Int × Unit) :=
 match jM (s.1, ()) with
 | none => none
 | some r0 =>
  match jM (s.2.1, ()) with
  | none => none
  | some r1 =>
   bif r0.1 then
    bif r1.1 then
     some (0, ())
    else
     some ((-1 : Int), ())
   else
    bif r1.1 then
     some (1, ())
    else
     bif (Op.bytesLess s.1 s.2.1) then
      some ((-1 : Int), ())
     else
      let t2 : Bool := (!(Op.bytesLess s.1 s.2.1 || decide ((s.1 : List UInt8) = s.2.1)))
      bif t2 then
       some (1, ())
      else
       some (0, ())
def cW (s : aa × aa × Unit) : Option (Int × Unit) :=
 match yD (s.1.1, s.2.1.1, ()) with
 | none => none
 | some r0 =>
  some (r0.1, ())
def ff (s : Int × Int × Int × Int × Bool × List aa × Unit) : Option ((Int × Int × Int × Int × List aa × Unit) ⊕ ((Int × Int × Int × List aa × Unit) ⊕ Unit)) :=
 bif s.2.2.2.2.1 then
  let t0 : Int := IntKind.i64.wrap (s.2.2.2.1 - 1)
  let t1 : Int := IntKind.i64.wrap (s.2.2.2.1 - 1)
  bif decide (0 <= t1) && decide (t1 < (List.length s.2.2.2.2.2.1 : Int)) then
   let t2 : aa := (List.getD s.2.2.2.2.2.1 (Int.toNat t1) ([], ([], ())))
   bif decide (0 <= s.2.2.2.1) && decide (s.2.2.2.1 < (List.length s.2.2.2.2.2.1 : Int)) then
    let t3 : aa := (List.getD s.2.2.2.2.2.1 (Int.toNat s.2.2.2.1) ([], ([], ())))
    bif decide (0 <= s.2.2.2.1) && decide (s.2.2.2.1 < (List.length s.2.2.2.2.2.1 : Int)) then
     let t4 : List aa := (List.set s.2.2.2.2.2.1 (Int.toNat s.2.2.2.1) t2)
     bif decide (0 <= t0) && decide (t0 < (List.length t4 : Int)) then
      let t5 : Int := IntKind.i64.wrap (s.2.2.2.1 - 1)
      some (.inl (s.1, s.2.1, s.2.2.1, t5, (List.set t4 (Int.toNat t0) t3), ()))
     else none
    else none
   else none
  else none
 else
  some (.inr (.inl (s.1, s.2.1, s.2.2.1, s.2.2.2.2.2.1, ())))

def gV (s : Int × Int × Int × Int × List aa × Unit) : Option ((Int × Int × Int × Int × List aa × Unit) ⊕ ((Int × Int × Int × List aa × Unit) ⊕ Unit)) :=
 bif decide (s.2.2.2.1 > s.1) then
  bif decide (0 <= s.2.2.2.1) && decide (s.2.2.2.1 < (List.length s.2.2.2.2.1 : Int)) then
   let t0 : aa := (List.getD s.2.2.2.2.1 (Int.toNat s.2.2.2.1) ([], ([], ())))
   let t1 : Int := IntKind.i64.wrap (s.2.2.2.1 - 1)
   bif decide (0 <= t1) && decide (t1 < (List.length s.2.2.2.2.1 : Int)) then
    let t2 : aa := (List.getD s.2.2.2.2.1 (Int.toNat t1) ([], ([], ())))
    match cW (t0, t2, ()) with
    | none => none
    | some r3 =>
     ff (s.1, s.2.1, s.2.2.1, s.2.2.2.1, (decide (r3.1 < 0)), s.2.2.2.2.1, ())
   else none
  else none
 else
  ff (s.1, s.2.1, s.2.2.1, s.2.2.2.1, false, s.2.2.2.2.1, ())
def gX (s : Int × Int × Int × Int × List aa × Unit) : Option ((Int × Int × Int × List aa × Unit) ⊕ Unit) := aP gV s
def gU (s : Int × Int × Int × List aa × Unit) : Option ((Int × Int × Int × List aa × Unit) ⊕ ((List aa × Unit) ⊕ Unit)) :=
 bif decide (s.2.2.1 < s.2.1) then
  match gX (s.1, s.2.1, s.2.2.1, s.2.2.1, s.2.2.2.1, ()) with
  | none => none
  | some (.inl z0) =>
   let t1 : Int := IntKind.i64.wrap (z0.2.2.1 + 1)
   some (.inl (z0.1, z0.2.1, t1, z0.2.2.2.1, ()))
  | some (.inr z0) =>
   none
 else
  some (.inr (.inl (s.2.2.2.1, ())))
def gW (s : Int × Int × Int × List aa × Unit) : Option ((List aa × Unit) ⊕ Unit) := aP gU s
def jf (s : Int × Int × List aa × Unit) : Option (List aa × Unit) :=
 match gW (s.1, s.2.1, (IntKind.i64.wrap (s.1 + 1)), s.2.2.1, ()) with
 | none => none
 | some (.inl z0) =>
  some (z0.1, ())
 | some (.inr z0) =>
  none
def iR (s : Int × Int × Int × Int × List aa × Unit) : Option ((Int × Int × Int × List aa × Unit) ⊕ ((List aa × Unit) ⊕ (List aa × Unit))) :=
 bif (decide (0 <= (IntKind.i64.wrap (s.2.1 + s.2.2.1))) && decide (((IntKind.i64.wrap (s.2.1 + s.2.2.1)) : Int) < (List.length s.2.2.2.2.1 : Int))) then
  let t0 : aa := (List.getD s.2.2.2.2.1 (Int.toNat (IntKind.i64.wrap (s.2.1 + s.2.2.1))) ([], ([], ())))
  bif (decide (0 <= (IntKind.i64.wrap (s.2.1 + s.2.2.2.1))) && decide (((IntKind.i64.wrap (s.2.1 + s.2.2.2.1)) : Int) < (List.length s.2.2.2.2.1 : Int))) then
   let t1 : aa := (List.getD s.2.2.2.2.1 (Int.toNat (IntKind.i64.wrap (s.2.1 + s.2.2.2.1))) ([], ([], ())))
   match cW (t0, t1, ()) with
   | none => none
   | some r2 =>
    bif (!(decide (r2.1 < 0))) then
     some (.inr (.inr (s.2.2.2.2.1, ())))
    else
     bif (decide (0 <= (IntKind.i64.wrap (s.2.1 + s.2.2.2.1))) && decide (((IntKind.i64.wrap (s.2.1 + s.2.2.2.1)) : Int) < (List.length s.2.2.2.2.1 : Int))) then
      let t3 : aa := (List.getD s.2.2.2.2.1 (Int.toNat (IntKind.i64.wrap (s.2.1 + s.2.2.2.1))) ([], ([], ())))
      bif (decide (0 <= (IntKind.i64.wrap (s.2.1 + s.2.2.1))) && decide (((IntKind.i64.wrap (s.2.1 + s.2.2.1)) : Int) < (List.length s.2.2.2.2.1 : Int))) then
       let t4 : aa := (List.getD s.2.2.2.2.1 (Int.toNat (IntKind.i64.wrap (s.2.1 + s.2.2.1))) ([], ([], ())))
       bif (decide (0 <= (IntKind.i64.wrap (s.2.1 + s.2.2.1))) && decide (((IntKind.i64.wrap (s.2.1 + s.2.2.1)) : Int) < (List.length s.2.2.2.2.1 : Int))) then
        let t5 : List aa := (List.set s.2.2.2.2.1 (Int.toNat (IntKind.i64.wrap (s.2.1 + s.2.2.1))) t3)
        bif (decide (0 <= (IntKind.i64.wrap (s.2.1 + s.2.2.2.1))) && decide (((IntKind.i64.wrap (s.2.1 + s.2.2.2.1)) : Int) < (List.length t5 : Int))) then
         let t6 : List aa := (List.set t5 (Int.toNat (IntKind.i64.wrap (s.2.1 + s.2.2.2.1))) t4)
         some (.inl (s.1, s.2.1, s.2.2.2.1, t6, ()))
        else none
       else none
      else none
     else none
  else none
 else none
def iS (s : Int × Int × Int × Int × Bool × List aa × Unit) : Option ((Int × Int × Int × List aa × Unit) ⊕ ((List aa × Unit) ⊕ (List aa × Unit))) :=
 bif s.2.2.2.2.1 then
  let t0 : Int := IntKind.i64.wrap (s.2.2.2.1 + 1)
  iR (s.1, s.2.1, s.2.2.1, t0, s.2.2.2.2.2.1, ())
 else
  iR (s.1, s.2.1, s.2.2.1, s.2.2.2.1, s.2.2.2.2.2.1, ())

def kv (s : Int × Int × Int × List aa × Unit) : Option ((Int × Int × Int × List aa × Unit) ⊕ ((List aa × Unit) ⊕ (List aa × Unit))) :=
 let t0 : Int := (IntKind.i64.wrap ((IntKind.i64.wrap (2 * s.2.2.1)) + 1))
 bif decide (t0 >= s.1) then
  some (.inr (.inl (s.2.2.2.1, ())))
 else
  let t1 : Bool := (decide (((IntKind.i64.wrap (t0 + 1)) : Int) < s.1))
  bif t1 then
   bif (decide (0 <= (IntKind.i64.wrap (s.2.1 + t0))) && decide (((IntKind.i64.wrap (s.2.1 + t0)) : Int) < (List.length s.2.2.2.1 : Int))) then
    let t2 : aa := (List.getD s.2.2.2.1 (Int.toNat (IntKind.i64.wrap (s.2.1 + t0))) ([], ([], ())))
    let t3 : Int := (IntKind.i64.wrap ((IntKind.i64.wrap (s.2.1 + t0)) + 1))
    bif decide (0 <= t3) && decide (t3 < (List.length s.2.2.2.1 : Int)) then
     let t4 : aa := (List.getD s.2.2.2.1 (Int.toNat t3) ([], ([], ())))
     match cW (t2, t4, ()) with
     | none => none
     | some r5 =>
      iS (s.1, s.2.1, s.2.2.1, t0, (decide (r5.1 < 0)), s.2.2.2.1, ())
    else none
   else none
  else
   iS (s.1, s.2.1, s.2.2.1, t0, false, s.2.2.2.1, ())
def kx (s : Int × Int × Int × List aa × Unit) : Option ((List aa × Unit) ⊕ (List aa × Unit)) := aP kv s
def fC (s : Int × Int × Int × List aa × Unit) : Option (List aa × Unit) :=
 match kx (s.2.1, s.2.2.1, s.1, s.2.2.2.1, ()) with
 | none => none
 | some (.inl z0) =>
  some (z0.1, ())
 | some (.inr z0) =>
  some (z0.1, ())
def kq (s : Int × Int × Int × Int × List aa × Unit) : Option ((Int × Int × Int × Int × List aa × Unit) ⊕ ((Int × Int × Int × List aa × Unit) ⊕ Unit)) :=
 bif decide (s.2.2.2.1 >= 0) then
  match fC (s.2.2.2.1, s.2.2.1, s.1, s.2.2.2.2.1, ()) with
  | none => none
  | some r0 =>
   let t1 : Int := IntKind.i64.wrap (s.2.2.2.1 - 1)
   some (.inl (s.1, s.2.1, s.2.2.1, t1, r0.1, ()))
 else
  some (.inr (.inl (s.1, s.2.1, s.2.2.1, s.2.2.2.2.1, ())))
def kt (s : Int × Int × Int × Int × List aa × Unit) : Option ((Int × Int × Int × List aa × Unit) ⊕ Unit) := aP kq s
def kr (s : Int × Int × Int × List aa × Unit) : Option ((Int × Int × Int × List aa × Unit) ⊕ ((List aa × Unit) ⊕ Unit)) :=
 bif decide (s.2.2.1 >= 0) then
  bif (decide (0 <= (IntKind.i64.wrap (s.1 + s.2.2.1))) && decide (((IntKind.i64.wrap (s.1 + s.2.2.1)) : Int) < (List.length s.2.2.2.1 : Int))) then
   let t0 : aa := (List.getD s.2.2.2.1 (Int.toNat (IntKind.i64.wrap (s.1 + s.2.2.1))) ([], ([], ())))
   bif decide (0 <= s.1) && decide (s.1 < (List.length s.2.2.2.1 : Int)) then
    let t1 : aa := (List.getD s.2.2.2.1 (Int.toNat s.1) ([], ([], ())))
    bif decide (0 <= s.1) && decide (s.1 < (List.length s.2.2.2.1 : Int)) then
     bif (decide (0 <= (IntKind.i64.wrap (s.1 + s.2.2.1))) && decide (((IntKind.i64.wrap (s.1 + s.2.2.1)) : Int) < (List.length (List.set s.2.2.2.1 (Int.toNat s.1) t0) : Int))) then
      let t2 : List aa := (List.set (List.set s.2.2.2.1 (Int.toNat s.1) t0) (Int.toNat (IntKind.i64.wrap (s.1 + s.2.2.1))) t1)
      match fC (s.2.1, s.2.2.1, s.1, t2, ()) with
      | none => none
      | some r3 =>
       some (.inl (s.1, s.2.1, (IntKind.i64.wrap (s.2.2.1 - 1)), r3.1, ()))
     else none
    else none
   else none
  else none
 else
  some (.inr (.inl (s.2.2.2.1, ())))
def ku (s : Int × Int × Int × List aa × Unit) : Option ((List aa × Unit) ⊕ Unit) := aP kr s
def lz (s : Int × Int × List aa × Unit) : Option (List aa × Unit) :=
 let t0 : Int := (IntKind.i64.wrap ((IntKind.i64.wrap (s.2.1 - s.1)) - 1))
 let t1 : Int := IntKind.i64.wrap (Int.tdiv t0 2)
 match kt (s.1, 0, (IntKind.i64.wrap (s.2.1 - s.1)), t1, s.2.2.1, ()) with
 | none => none
 | some (.inl z2) =>
  let t3 : Int := IntKind.i64.wrap (z2.2.2.1 - 1)
  match ku (z2.1, z2.2.1, t3, z2.2.2.2.1, ()) with
  | none => none
  | some (.inl z4) =>
   some (z4.1, ())
  | some (.inr z4) =>
   none
 | some (.inr z2) =>
  none
def d9 (s : Int × Int × List aa × Int × Unit) : Option (Int × Int × List aa × Int × Unit) :=
 bif decide (0 <= s.2.1) && decide (s.2.1 < (List.length s.2.2.1 : Int)) then
  let t0 : aa := (List.getD s.2.2.1 (Int.toNat s.2.1) ([], ([], ())))
  bif decide (0 <= s.1) && decide (s.1 < (List.length s.2.2.1 : Int)) then
   let t1 : aa := (List.getD s.2.2.1 (Int.toNat s.1) ([], ([], ())))
   match cW (t0, t1, ()) with
   | none => none
   | some r2 =>
    bif decide (r2.1 < 0) then
     let t3 : Int := IntKind.i64.wrap (s.2.2.2.1 + 1)
     some (s.2.1, s.1, s.2.2.1, t3, ())
    else
     some (s.1, s.2.1, s.2.2.1, s.2.2.2.1, ())
  else none
 else none
def ij (s : Int × Int × Int × List aa × Int × Unit) : Option (Int × List aa × Int × Unit) :=
 match d9 (s.1, s.2.1, s.2.2.2.1, s.2.2.2.2.1, ()) with
 | none => none
 | some r0 =>
  match d9 (r0.2.1, s.2.2.1, r0.2.2.1, r0.2.2.2.1, ()) with
  | none => none
  | some r1 =>
   match d9 (r0.1, r1.1, r1.2.2.1, r1.2.2.2.1, ()) with
   | none => none
   | some r2 =>
    some (r2.2.1, r2.2.2.1, r2.2.2.2.1, ())
def bS (s : Int × List aa × Int × Unit) : Option (Int × List aa × Int × Unit) :=
 match ij ((IntKind.i64.wrap (s.1 - 1)), s.1, (IntKind.i64.wrap (s.1 + 1)), s.2.1, s.2.2.1, ()) with
 | none => none
 | some r0 =>
  some (r0.1, r0.2.1, r0.2.2.1, ())
def iP (s : Int × Int × Int × List aa × Int × Unit) : Option (Int × Int × List aa × Unit) :=
 match ij (s.1, s.2.1, s.2.2.1, s.2.2.2.1, s.2.2.2.2.1, ()) with
 | none => none
 | some r0 =>
  bif decide (r0.2.2.1 = 0) then
   some (r0.1, 1, r0.2.1, ())
  else
   bif decide (r0.2.2.1 = 12) then
    some (r0.1, 2, r0.2.1, ())
   else
    some (r0.1, 0, r0.2.1, ())

def ko (s : Int × Int × List aa × Unit) : Option (Int × Int × List aa × Unit) :=
 let t0 : Int := (IntKind.i64.wrap (Int.tdiv (IntKind.i64.wrap (s.2.1 - s.1)) 4))
 let t1 : Int := (IntKind.i64.wrap (s.1 + (IntKind.i64.wrap (t0 * 1))))
 let t2 : Int := (IntKind.i64.wrap (Int.tdiv (IntKind.i64.wrap (s.2.1 - s.1)) 4))
 let t3 : Int := (IntKind.i64.wrap (s.1 + (IntKind.i64.wrap (t2 * 2))))
 let t4 : Int := (IntKind.i64.wrap (Int.tdiv (IntKind.i64.wrap (s.2.1 - s.1)) 4))
 let t5 : Int := (IntKind.i64.wrap (s.1 + (IntKind.i64.wrap (t4 * 3))))
 let t6 : Bool := (decide (((IntKind.i64.wrap (s.2.1 - s.1)) : Int) >= 8))
 bif t6 then
  let t7 : Bool := (decide (((IntKind.i64.wrap (s.2.1 - s.1)) : Int) >= 50))
  bif t7 then
   match bS (t1, s.2.2.1, 0, ()) with
   | none => none
   | some r8 =>
    match bS (t3, r8.2.1, r8.2.2.1, ()) with
    | none => none
    | some r9 =>
     match bS (t5, r9.2.1, r9.2.2.1, ()) with
     | none => none
     | some r10 =>
      iP (r8.1, r9.1, r10.1, r10.2.1, r10.2.2.1, ())
  else
   iP (t1, t3, t5, s.2.2.1, 0, ())
 else
  bif decide ((0 : Int) = 0) then
   some (t3, 1, s.2.2.1, ())
  else
   let t7 : Bool := decide ((0 : Int) = 12)
   bif t7 then
    some (t3, 2, s.2.2.1, ())
   else
    some (t3, 0, s.2.2.1, ())
def il (s : Int × Int × List aa × Unit) : Option ((Int × Int × List aa × Unit) ⊕ ((List aa × Unit) ⊕ Unit)) :=
 bif decide (s.1 < s.2.1) then
  bif decide (0 <= s.2.1) && decide (s.2.1 < (List.length s.2.2.1 : Int)) then
   let t0 : aa := (List.getD s.2.2.1 (Int.toNat s.2.1) ([], ([], ())))
   bif decide (0 <= s.1) && decide (s.1 < (List.length s.2.2.1 : Int)) then
    let t1 : aa := (List.getD s.2.2.1 (Int.toNat s.1) ([], ([], ())))
    bif decide (0 <= s.1) && decide (s.1 < (List.length s.2.2.1 : Int)) then
     bif (decide (0 <= s.2.1) && decide (s.2.1 < (List.length (List.set s.2.2.1 (Int.toNat s.1) t0) : Int))) then
      let t2 : List aa := (List.set (List.set s.2.2.1 (Int.toNat s.1) t0) (Int.toNat s.2.1) t1)
      some (.inl ((IntKind.i64.wrap (s.1 + 1)), (IntKind.i64.wrap (s.2.1 - 1)), t2, ()))
     else none
    else none
   else none
  else none
 else
  some (.inr (.inl (s.2.2.1, ())))
def io (s : Int × Int × List aa × Unit) : Option ((List aa × Unit) ⊕ Unit) := aP il s
def jC (s : Int × Int × List aa × Unit) : Option (List aa × Unit) :=
 match io (s.1, (IntKind.i64.wrap (s.2.1 - 1)), s.2.2.1, ()) with
 | none => none
 | some (.inl z0) =>
  some (z0.1, ())
 | some (.inr z0) =>
  none
def dM (s : Int × Int × Int × Int × List aa × Unit) : Option ((Int × Int × Int × Int × List aa × Unit) ⊕ ((Int × Int × Int × Int × List aa × Unit) ⊕ Unit)) :=
 bif decide (s.2.2.1 < s.2.1) then
  bif decide (0 <= s.2.2.1) && decide (s.2.2.1 < (List.length s.2.2.2.2.1 : Int)) then
   let t0 : aa := (List.getD s.2.2.2.2.1 (Int.toNat s.2.2.1) ([], ([], ())))
   bif (decide (0 <= (IntKind.i64.wrap (s.2.2.1 - 1))) && decide (((IntKind.i64.wrap (s.2.2.1 - 1)) : Int) < (List.length s.2.2.2.2.1 : Int))) then
    let t1 : aa := (List.getD s.2.2.2.2.1 (Int.toNat (IntKind.i64.wrap (s.2.2.1 - 1))) ([], ([], ())))
    match cW (t0, t1, ()) with
    | none => none
    | some r2 =>
     bif (!(decide (r2.1 < 0))) then
      some (.inl (s.1, s.2.1, (IntKind.i64.wrap (s.2.2.1 + 1)), s.2.2.2.1, s.2.2.2.2.1, ()))
     else
      some (.inr (.inl (s.1, s.2.1, s.2.2.1, s.2.2.2.1, s.2.2.2.2.1, ())))
   else none
  else none
 else
  some (.inr (.inl (s.1, s.2.1, s.2.2.1, s.2.2.2.1, s.2.2.2.2.1, ())))
def dQ (s : Int × Int × Int × Int × List aa × Unit) : Option ((Int × Int × Int × Int × List aa × Unit) ⊕ Unit) := aP dM s
def dN (s : Int × Int × Int × Int × Int × List aa × Unit) : Option ((Int × Int × Int × Int × Int × List aa × Unit) ⊕ ((Int × Int × Int × Int × List aa × Unit) ⊕ Unit)) :=
 let t0 : Bool := decide (s.2.2.2.2.1 >= 1)
 bif t0 then
  bif decide (0 <= s.2.2.2.2.1) && decide (s.2.2.2.2.1 < (List.length s.2.2.2.2.2.1 : Int)) then
   let t1 : aa := (List.getD s.2.2.2.2.2.1 (Int.toNat s.2.2.2.2.1) ([], ([], ())))
   let t2 : Int := IntKind.i64.wrap (s.2.2.2.2.1 - 1)
   bif decide (0 <= t2) && decide (t2 < (List.length s.2.2.2.2.2.1 : Int)) then
    let t3 : aa := (List.getD s.2.2.2.2.2.1 (Int.toNat t2) ([], ([], ())))
    match cW (t1, t3, ()) with
    | none => none
    | some r4 =>
     bif (!(decide (r4.1 < 0))) then
      some (.inr (.inl (s.1, s.2.1, s.2.2.1, s.2.2.2.1, s.2.2.2.2.2.1, ())))
     else
      let t5 : Int := IntKind.i64.wrap (s.2.2.2.2.1 - 1)
      let t6 : Int := IntKind.i64.wrap (s.2.2.2.2.1 - 1)
      bif decide (0 <= t6) && decide (t6 < (List.length s.2.2.2.2.2.1 : Int)) then
       let t7 : aa := (List.getD s.2.2.2.2.2.1 (Int.toNat t6) ([], ([], ())))
       bif decide (0 <= s.2.2.2.2.1) && decide (s.2.2.2.2.1 < (List.length s.2.2.2.2.2.1 : Int)) then
        let t8 : aa := (List.getD s.2.2.2.2.2.1 (Int.toNat s.2.2.2.2.1) ([], ([], ())))
        bif decide (0 <= s.2.2.2.2.1) && decide (s.2.2.2.2.1 < (List.length s.2.2.2.2.2.1 : Int)) then
         let t9 : List aa := (List.set s.2.2.2.2.2.1 (Int.toNat s.2.2.2.2.1) t7)
         bif decide (0 <= t5) && decide (t5 < (List.length t9 : Int)) then
          let t10 : Int := IntKind.i64.wrap (s.2.2.2.2.1 - 1)
          some (.inl (s.1, s.2.1, s.2.2.1, s.2.2.2.1, t10, (List.set t9 (Int.toNat t5) t8), ()))
         else none
        else none
       else none
      else none
   else none
  else none
 else
  some (.inr (.inl (s.1, s.2.1, s.2.2.1, s.2.2.2.1, s.2.2.2.2.2.1, ())))
def dR (s : Int × Int × Int × Int × Int × List aa × Unit) : Option ((Int × Int × Int × Int × List aa × Unit) ⊕ Unit) := aP dN s
def dO (s : Int × Int × Int × Int × Int × List aa × Unit) : Option ((Int × Int × Int × Int × Int × List aa × Unit) ⊕ ((Int × Int × Int × Int × List aa × Unit) ⊕ Unit)) :=
 bif decide (s.2.2.2.2.1 < s.2.1) then
  bif decide (0 <= s.2.2.2.2.1) && decide (s.2.2.2.2.1 < (List.length s.2.2.2.2.2.1 : Int)) then
   let t0 : aa := (List.getD s.2.2.2.2.2.1 (Int.toNat s.2.2.2.2.1) ([], ([], ())))
   let t1 : Int := IntKind.i64.wrap (s.2.2.2.2.1 - 1)
   bif decide (0 <= t1) && decide (t1 < (List.length s.2.2.2.2.2.1 : Int)) then
    let t2 : aa := (List.getD s.2.2.2.2.2.1 (Int.toNat t1) ([], ([], ())))
    match cW (t0, t2, ()) with
    | none => none
    | some r3 =>
     bif (!(decide (r3.1 < 0))) then
      some (.inr (.inl (s.1, s.2.1, s.2.2.1, s.2.2.2.1, s.2.2.2.2.2.1, ())))
     else
      let t4 : Int := IntKind.i64.wrap (s.2.2.2.2.1 - 1)
      let t5 : Int := IntKind.i64.wrap (s.2.2.2.2.1 - 1)
      bif decide (0 <= t5) && decide (t5 < (List.length s.2.2.2.2.2.1 : Int)) then
       let t6 : aa := (List.getD s.2.2.2.2.2.1 (Int.toNat t5) ([], ([], ())))
       bif decide (0 <= s.2.2.2.2.1) && decide (s.2.2.2.2.1 < (List.length s.2.2.2.2.2.1 : Int)) then
        let t7 : aa := (List.getD s.2.2.2.2.2.1 (Int.toNat s.2.2.2.2.1) ([], ([], ())))
        bif decide (0 <= s.2.2.2.2.1) && decide (s.2.2.2.2.1 < (List.length s.2.2.2.2.2.1 : Int)) then
         let t8 : List aa := (List.set s.2.2.2.2.2.1 (Int.toNat s.2.2.2.2.1) t6)
         bif decide (0 <= t4) && decide (t4 < (List.length t8 : Int)) then
          let t9 : Int := IntKind.i64.wrap (s.2.2.2.2.1 + 1)
          some (.inl (s.1, s.2.1, s.2.2.1, s.2.2.2.1, t9, (List.set t8 (Int.toNat t4) t7), ()))
         else none
        else none
       else none
      else none
   else none
  else none
 else
  some (.inr (.inl (s.1, s.2.1, s.2.2.1, s.2.2.2.1, s.2.2.2.2.2.1, ())))
def dS (s : Int × Int × Int × Int × Int × List aa × Unit) : Option ((Int × Int × Int × Int × List aa × Unit) ⊕ Unit) := aP dO s
def cZ (s : Int × Int × Int × Int × List aa × Unit) : Option ((Int × Int × Int × Int × List aa × Unit) ⊕ ((Bool × List aa × Unit) ⊕ (List aa × Unit))) :=
 let t0 : Bool := (decide (((IntKind.i64.wrap (s.2.1 - s.2.2.1)) : Int) >= 2))
 bif t0 then
  match dS (s.1, s.2.1, s.2.2.1, s.2.2.2.1, (IntKind.i64.wrap (s.2.2.1 + 1)), s.2.2.2.2.1, ()) with
  | none => none
  | some (.inl z1) =>
   let t2 : Int := IntKind.i64.wrap (z1.2.2.2.1 + 1)
   some (.inl (z1.1, z1.2.1, z1.2.2.1, t2, z1.2.2.2.2.1, ()))
  | some (.inr z1) =>
   none
 else
  let t1 : Int := IntKind.i64.wrap (s.2.2.2.1 + 1)
  some (.inl (s.1, s.2.1, s.2.2.1, t1, s.2.2.2.2.1, ()))

def dL (s : Int × Int × Int × Int × List aa × Unit) : Option ((Int × Int × Int × Int × List aa × Unit) ⊕ ((Bool × List aa × Unit) ⊕ (List aa × Unit))) :=
 bif decide (s.2.2.2.1 < 5) then
  match dQ (s.1, s.2.1, s.2.2.1, s.2.2.2.1, s.2.2.2.2.1, ()) with
  | none => none
  | some (.inl z0) =>
   bif decide (z0.2.2.1 = z0.2.1) then
    some (.inr (.inl (true, z0.2.2.2.2.1, ())))
   else
    let t1 : Bool := (decide (((IntKind.i64.wrap (z0.2.1 - z0.1)) : Int) < 50))
    bif t1 then
     some (.inr (.inl (false, z0.2.2.2.2.1, ())))
    else
     let t2 : Int := IntKind.i64.wrap (z0.2.2.1 - 1)
     let t3 : Int := IntKind.i64.wrap (z0.2.2.1 - 1)
     bif decide (0 <= t3) && decide (t3 < (List.length z0.2.2.2.2.1 : Int)) then
      let t4 : aa := (List.getD z0.2.2.2.2.1 (Int.toNat t3) ([], ([], ())))
      bif decide (0 <= z0.2.2.1) && decide (z0.2.2.1 < (List.length z0.2.2.2.2.1 : Int)) then
       let t5 : aa := (List.getD z0.2.2.2.2.1 (Int.toNat z0.2.2.1) ([], ([], ())))
       bif decide (0 <= z0.2.2.1) && decide (z0.2.2.1 < (List.length z0.2.2.2.2.1 : Int)) then
        let t6 : List aa := (List.set z0.2.2.2.2.1 (Int.toNat z0.2.2.1) t4)
        bif decide (0 <= t2) && decide (t2 < (List.length t6 : Int)) then
         let t7 : Bool := (decide (((IntKind.i64.wrap (z0.2.2.1 - z0.1)) : Int) >= 2))
         bif t7 then
          let t8 : Int := IntKind.i64.wrap (z0.2.2.1 - 1)
          match dR (z0.1, z0.2.1, z0.2.2.1, z0.2.2.2.1, t8, (List.set t6 (Int.toNat t2) t5), ()) with
          | none => none
          | some (.inl z9) =>
           cZ (z9.1, z9.2.1, z9.2.2.1, z9.2.2.2.1, z9.2.2.2.2.1, ())
          | some (.inr z9) =>
           none
         else
          cZ (z0.1, z0.2.1, z0.2.2.1, z0.2.2.2.1, (List.set t6 (Int.toNat t2) t5), ())
        else none
       else none
      else none
     else none
  | some (.inr z0) =>
   none
 else
  some (.inr (.inr (s.2.2.2.2.1, ())))
def dP (s : Int × Int × Int × Int × List aa × Unit) : Option ((Bool × List aa × Unit) ⊕ (List aa × Unit)) := aP dL s
def eN (s : Int × Int × List aa × Unit) : Option (Bool × List aa × Unit) :=
 match dP (s.1, s.2.1, (IntKind.i64.wrap (s.1 + 1)), 0, s.2.2.1, ()) with
 | none => none
 | some (.inl z0) =>
  some (z0.1, z0.2.1, ())
 | some (.inr z0) =>
  some (false, z0.1, ())
def gu (s : Int × Int × Int × List aa × Unit) : Option ((Int × Int × Int × List aa × Unit) ⊕ ((Int × Int × Int × List aa × Unit) ⊕ Unit)) :=
 bif decide (s.2.1 <= s.2.2.1) then
  bif decide (0 <= s.1) && decide (s.1 < (List.length s.2.2.2.1 : Int)) then
   let t0 : aa := (List.getD s.2.2.2.1 (Int.toNat s.1) ([], ([], ())))
   bif decide (0 <= s.2.1) && decide (s.2.1 < (List.length s.2.2.2.1 : Int)) then
    let t1 : aa := (List.getD s.2.2.2.1 (Int.toNat s.2.1) ([], ([], ())))
    match cW (t0, t1, ()) with
    | none => none
    | some r2 =>
     bif (!(decide (r2.1 < 0))) then
      some (.inl (s.1, (IntKind.i64.wrap (s.2.1 + 1)), s.2.2.1, s.2.2.2.1, ()))
     else
      some (.inr (.inl (s.1, s.2.1, s.2.2.1, s.2.2.2.1, ())))
   else none
  else none
 else
  some (.inr (.inl (s.1, s.2.1, s.2.2.1, s.2.2.2.1, ())))
def gC (s : Int × Int × Int × List aa × Unit) : Option ((Int × Int × Int × List aa × Unit) ⊕ Unit) := aP gu s
def gv (s : Int × Int × Int × List aa × Unit) : Option ((Int × Int × Int × List aa × Unit) ⊕ ((Int × Int × Int × List aa × Unit) ⊕ Unit)) :=
 bif decide (s.2.1 <= s.2.2.1) then
  bif decide (0 <= s.1) && decide (s.1 < (List.length s.2.2.2.1 : Int)) then
   let t0 : aa := (List.getD s.2.2.2.1 (Int.toNat s.1) ([], ([], ())))
   bif decide (0 <= s.2.2.1) && decide (s.2.2.1 < (List.length s.2.2.2.1 : Int)) then
    let t1 : aa := (List.getD s.2.2.2.1 (Int.toNat s.2.2.1) ([], ([], ())))
    match cW (t0, t1, ()) with
    | none => none
    | some r2 =>
     bif decide (r2.1 < 0) then
      some (.inl (s.1, s.2.1, (IntKind.i64.wrap (s.2.2.1 - 1)), s.2.2.2.1, ()))
     else
      some (.inr (.inl (s.1, s.2.1, s.2.2.1, s.2.2.2.1, ())))
   else none
  else none
 else
  some (.inr (.inl (s.1, s.2.1, s.2.2.1, s.2.2.2.1, ())))
def gD (s : Int × Int × Int × List aa × Unit) : Option ((Int × Int × Int × List aa × Unit) ⊕ Unit) := aP gv s
def gr (s : Int × Int × Int × List aa × Unit) : Option ((Int × Int × Int × List aa × Unit) ⊕ ((Int × List aa × Unit) ⊕ Unit)) :=
 match gC (s.1, s.2.1, s.2.2.1, s.2.2.2.1, ()) with
 | none => none
 | some (.inl z0) =>
  match gD (z0.1, z0.2.1, z0.2.2.1, z0.2.2.2.1, ()) with
  | none => none
  | some (.inl z1) =>
   bif decide (z1.2.1 > z1.2.2.1) then
    some (.inr (.inl (z1.2.1, z1.2.2.2.1, ())))
   else
    bif decide (0 <= z1.2.2.1) && decide (z1.2.2.1 < (List.length z1.2.2.2.1 : Int)) then
     let t2 : aa := (List.getD z1.2.2.2.1 (Int.toNat z1.2.2.1) ([], ([], ())))
     bif decide (0 <= z1.2.1) && decide (z1.2.1 < (List.length z1.2.2.2.1 : Int)) then
      let t3 : aa := (List.getD z1.2.2.2.1 (Int.toNat z1.2.1) ([], ([], ())))
      bif decide (0 <= z1.2.1) && decide (z1.2.1 < (List.length z1.2.2.2.1 : Int)) then
       let t4 : List aa := (List.set z1.2.2.2.1 (Int.toNat z1.2.1) t2)
       bif decide (0 <= z1.2.2.1) && decide (z1.2.2.1 < (List.length t4 : Int)) then
        let t5 : Int := IntKind.i64.wrap (z1.2.2.1 - 1)
        some (.inl (z1.1, (IntKind.i64.wrap (z1.2.1 + 1)), t5, (List.set t4 (Int.toNat z1.2.2.1) t3), ()))
       else none
      else none
     else none
    else none
  | some (.inr z1) =>
   none
 | some (.inr z0) =>
  none
def gz (s : Int × Int × Int × List aa × Unit) : Option ((Int × List aa × Unit) ⊕ Unit) := aP gr s
def iQ (s : Int × Int × Int × List aa × Unit) : Option (Int × List aa × Unit) :=
 bif decide (0 <= s.2.2.1) && decide (s.2.2.1 < (List.length s.2.2.2.1 : Int)) then
  let t0 : aa := (List.getD s.2.2.2.1 (Int.toNat s.2.2.1) ([], ([], ())))
  bif decide (0 <= s.1) && decide (s.1 < (List.length s.2.2.2.1 : Int)) then
   let t1 : aa := (List.getD s.2.2.2.1 (Int.toNat s.1) ([], ([], ())))
   bif decide (0 <= s.1) && decide (s.1 < (List.length s.2.2.2.1 : Int)) then
    bif (decide (0 <= s.2.2.1) && decide (s.2.2.1 < (List.length (List.set s.2.2.2.1 (Int.toNat s.1) t0) : Int))) then
     let t2 : List aa := (List.set (List.set s.2.2.2.1 (Int.toNat s.1) t0) (Int.toNat s.2.2.1) t1)
     match gz (s.1, (IntKind.i64.wrap (s.1 + 1)), (IntKind.i64.wrap (s.2.1 - 1)), t2, ()) with
     | none => none
     | some (.inl z3) =>
      some (z3.1, z3.2.1, ())
     | some (.inr z3) =>
      none
    else none
   else none
  else none
 else none
def j1 (s : Int × Int × Int × List aa × Unit) : Option ((Int × Int × Int × List aa × Unit) ⊕ ((Int × Int × Int × List aa × Unit) ⊕ Unit)) :=
 bif decide (s.2.1 <= s.2.2.1) then
  bif decide (0 <= s.2.1) && decide (s.2.1 < (List.length s.2.2.2.1 : Int)) then
   let t0 : aa := (List.getD s.2.2.2.1 (Int.toNat s.2.1) ([], ([], ())))
   bif decide (0 <= s.1) && decide (s.1 < (List.length s.2.2.2.1 : Int)) then
    let t1 : aa := (List.getD s.2.2.2.1 (Int.toNat s.1) ([], ([], ())))
    match cW (t0, t1, ()) with
    | none => none
    | some r2 =>
     bif decide (r2.1 < 0) then
      some (.inl (s.1, (IntKind.i64.wrap (s.2.1 + 1)), s.2.2.1, s.2.2.2.1, ()))
     else
      some (.inr (.inl (s.1, s.2.1, s.2.2.1, s.2.2.2.1, ())))
   else none
  else none
 else
  some (.inr (.inl (s.1, s.2.1, s.2.2.1, s.2.2.2.1, ())))
def j7 (s : Int × Int × Int × List aa × Unit) : Option ((Int × Int × Int × List aa × Unit) ⊕ Unit) := aP j1 s
def j3 (s : Int × Int × Int × List aa × Unit) : Option ((Int × Int × Int × List aa × Unit) ⊕ ((Int × Int × Int × List aa × Unit) ⊕ Unit)) :=
 bif decide (s.2.1 <= s.2.2.1) then
  bif decide (0 <= s.2.2.1) && decide (s.2.2.1 < (List.length s.2.2.2.1 : Int)) then
   let t0 : aa := (List.getD s.2.2.2.1 (Int.toNat s.2.2.1) ([], ([], ())))
   bif decide (0 <= s.1) && decide (s.1 < (List.length s.2.2.2.1 : Int)) then
    let t1 : aa := (List.getD s.2.2.2.1 (Int.toNat s.1) ([], ([], ())))
    match cW (t0, t1, ()) with
    | none => none
    | some r2 =>
     bif (!(decide (r2.1 < 0))) then
      some (.inl (s.1, s.2.1, (IntKind.i64.wrap (s.2.2.1 - 1)), s.2.2.2.1, ()))
     else
      some (.inr (.inl (s.1, s.2.1, s.2.2.1, s.2.2.2.1, ())))
   else none
  else none
 else
  some (.inr (.inl (s.1, s.2.1, s.2.2.1, s.2.2.2.1, ())))
def j8 (s : Int × Int × Int × List aa × Unit) : Option ((Int × Int × Int × List aa × Unit) ⊕ Unit) := aP j3 s
def j5 (s : Int × Int × Int × List aa × Unit) : Option ((Int × Int × Int × List aa × Unit) ⊕ ((Int × Int × Int × List aa × Unit) ⊕ Unit)) :=
 bif decide (s.2.1 <= s.2.2.1) then
  bif decide (0 <= s.2.1) && decide (s.2.1 < (List.length s.2.2.2.1 : Int)) then
   let t0 : aa := (List.getD s.2.2.2.1 (Int.toNat s.2.1) ([], ([], ())))
   bif decide (0 <= s.1) && decide (s.1 < (List.length s.2.2.2.1 : Int)) then
    let t1 : aa := (List.getD s.2.2.2.1 (Int.toNat s.1) ([], ([], ())))
    match cW (t0, t1, ()) with
    | none => none
    | some r2 =>
     bif decide (r2.1 < 0) then
      some (.inl (s.1, (IntKind.i64.wrap (s.2.1 + 1)), s.2.2.1, s.2.2.2.1, ()))
     else
      some (.inr (.inl (s.1, s.2.1, s.2.2.1, s.2.2.2.1, ())))
   else none
  else none
 else
  some (.inr (.inl (s.1, s.2.1, s.2.2.1, s.2.2.2.1, ())))
def jA (s : Int × Int × Int × List aa × Unit) : Option ((Int × Int × Int × List aa × Unit) ⊕ Unit) := aP j5 s
def j6 (s : Int × Int × Int × List aa × Unit) : Option ((Int × Int × Int × List aa × Unit) ⊕ ((Int × Int × Int × List aa × Unit) ⊕ Unit)) :=
 bif decide (s.2.1 <= s.2.2.1) then
  bif decide (0 <= s.2.2.1) && decide (s.2.2.1 < (List.length s.2.2.2.1 : Int)) then
   let t0 : aa := (List.getD s.2.2.2.1 (Int.toNat s.2.2.1) ([], ([], ())))
   bif decide (0 <= s.1) && decide (s.1 < (List.length s.2.2.2.1 : Int)) then
    let t1 : aa := (List.getD s.2.2.2.1 (Int.toNat s.1) ([], ([], ())))
    match cW (t0, t1, ()) with
    | none => none
    | some r2 =>
     bif (!(decide (r2.1 < 0))) then
      some (.inl (s.1, s.2.1, (IntKind.i64.wrap (s.2.2.1 - 1)), s.2.2.2.1, ()))
     else
      some (.inr (.inl (s.1, s.2.1, s.2.2.1, s.2.2.2.1, ())))
   else none
  else none
 else
  some (.inr (.inl (s.1, s.2.1, s.2.2.1, s.2.2.2.1, ())))
def jB (s : Int × Int × Int × List aa × Unit) : Option ((Int × Int × Int × List aa × Unit) ⊕ Unit) := aP j6 s
def j4 (s : Int × Int × Int × List aa × Unit) : Option ((Int × Int × Int × List aa × Unit) ⊕ ((Int × Int × List aa × Unit) ⊕ Unit)) :=
 match jA (s.1, s.2.1, s.2.2.1, s.2.2.2.1, ()) with
 | none => none
 | some (.inl z0) =>
  match jB (z0.1, z0.2.1, z0.2.2.1, z0.2.2.2.1, ()) with
  | none => none
  | some (.inl z1) =>
   bif decide (z1.2.1 > z1.2.2.1) then
    some (.inr (.inl (z1.1, z1.2.2.1, z1.2.2.2.1, ())))
   else
    bif decide (0 <= z1.2.2.1) && decide (z1.2.2.1 < (List.length z1.2.2.2.1 : Int)) then
     let t2 : aa := (List.getD z1.2.2.2.1 (Int.toNat z1.2.2.1) ([], ([], ())))
     bif decide (0 <= z1.2.1) && decide (z1.2.1 < (List.length z1.2.2.2.1 : Int)) then
      let t3 : aa := (List.getD z1.2.2.2.1 (Int.toNat z1.2.1) ([], ([], ())))
      bif decide (0 <= z1.2.1) && decide (z1.2.1 < (List.length z1.2.2.2.1 : Int)) then
       let t4 : List aa := (List.set z1.2.2.2.1 (Int.toNat z1.2.1) t2)
       bif decide (0 <= z1.2.2.1) && decide (z1.2.2.1 < (List.length t4 : Int)) then
        let t5 : Int := IntKind.i64.wrap (z1.2.2.1 - 1)
        some (.inl (z1.1, (IntKind.i64.wrap (z1.2.1 + 1)), t5, (List.set t4 (Int.toNat z1.2.2.1) t3), ()))
       else none
      else none
     else none
    else none
  | some (.inr z1) =>
   none
 | some (.inr z0) =>
  none
def j9 (s : Int × Int × Int × List aa × Unit) : Option ((Int × Int × List aa × Unit) ⊕ Unit) := aP j4 s
def kW (s : Int × Int × Int × List aa × Unit) : Option (Int × Bool × List aa × Unit) :=
 bif decide (0 <= s.2.2.1) && decide (s.2.2.1 < (List.length s.2.2.2.1 : Int)) then
  let t0 : aa := (List.getD s.2.2.2.1 (Int.toNat s.2.2.1) ([], ([], ())))
  bif decide (0 <= s.1) && decide (s.1 < (List.length s.2.2.2.1 : Int)) then
   let t1 : aa := (List.getD s.2.2.2.1 (Int.toNat s.1) ([], ([], ())))
   bif decide (0 <= s.1) && decide (s.1 < (List.length s.2.2.2.1 : Int)) then
    bif (decide (0 <= s.2.2.1) && decide (s.2.2.1 < (List.length (List.set s.2.2.2.1 (Int.toNat s.1) t0) : Int))) then
     let t2 : List aa := (List.set (List.set s.2.2.2.1 (Int.toNat s.1) t0) (Int.toNat s.2.2.1) t1)
     match j7 (s.1, (IntKind.i64.wrap (s.1 + 1)), (IntKind.i64.wrap (s.2.1 - 1)), t2, ()) with
     | none => none
     | some (.inl z3) =>
      match j8 (z3.1, z3.2.1, z3.2.2.1, z3.2.2.2.1, ()) with
      | none => none
      | some (.inl z4) =>
       bif decide (z4.2.1 > z4.2.2.1) then
        bif decide (0 <= z4.1) && decide (z4.1 < (List.length z4.2.2.2.1 : Int)) then
         let t5 : aa := (List.getD z4.2.2.2.1 (Int.toNat z4.1) ([], ([], ())))
         bif decide (0 <= z4.2.2.1) && decide (z4.2.2.1 < (List.length z4.2.2.2.1 : Int)) then
          let t6 : aa := (List.getD z4.2.2.2.1 (Int.toNat z4.2.2.1) ([], ([], ())))
          bif decide (0 <= z4.2.2.1) && decide (z4.2.2.1 < (List.length z4.2.2.2.1 : Int)) then
           let t7 : List aa := (List.set z4.2.2.2.1 (Int.toNat z4.2.2.1) t5)
           bif decide (0 <= z4.1) && decide (z4.1 < (List.length t7 : Int)) then
            some (z4.2.2.1, true, (List.set t7 (Int.toNat z4.1) t6), ())
           else none
          else none
         else none
        else none
       else
        bif decide (0 <= z4.2.2.1) && decide (z4.2.2.1 < (List.length z4.2.2.2.1 : Int)) then
         let t5 : aa := (List.getD z4.2.2.2.1 (Int.toNat z4.2.2.1) ([], ([], ())))
         bif decide (0 <= z4.2.1) && decide (z4.2.1 < (List.length z4.2.2.2.1 : Int)) then
          let t6 : aa := (List.getD z4.2.2.2.1 (Int.toNat z4.2.1) ([], ([], ())))
          bif decide (0 <= z4.2.1) && decide (z4.2.1 < (List.length z4.2.2.2.1 : Int)) then
           let t7 : List aa := (List.set z4.2.2.2.1 (Int.toNat z4.2.1) t5)
           bif decide (0 <= z4.2.2.1) && decide (z4.2.2.1 < (List.length t7 : Int)) then
            let t8 : Int := IntKind.i64.wrap (z4.2.2.1 - 1)
            match j9 (z4.1, (IntKind.i64.wrap (z4.2.1 + 1)), t8, (List.set t7 (Int.toNat z4.2.2.1) t6), ()) with
            | none => none
            | some (.inl z9) =>
             bif decide (0 <= z9.1) && decide (z9.1 < (List.length z9.2.2.1 : Int)) then
              let t10 : aa := (List.getD z9.2.2.1 (Int.toNat z9.1) ([], ([], ())))
              bif decide (0 <= z9.2.1) && decide (z9.2.1 < (List.length z9.2.2.1 : Int)) then
               let t11 : aa := (List.getD z9.2.2.1 (Int.toNat z9.2.1) ([], ([], ())))
               bif decide (0 <= z9.2.1) && decide (z9.2.1 < (List.length z9.2.2.1 : Int)) then
                let t12 : List aa := (List.set z9.2.2.1 (Int.toNat z9.2.1) t10)
                bif decide (0 <= z9.1) && decide (z9.1 < (List.length t12 : Int)) then
                 some (z9.2.1, false, (List.set t12 (Int.toNat z9.1) t11), ())
                else none
               else none
              else none
             else none
            | some (.inr z9) =>
             none
           else none
          else none
         else none
        else none
      | some (.inr z4) =>
       none
     | some (.inr z3) =>
      none
    else none
   else none
  else none
 else none
def uS (s : Int × Unit) : Option (Int × Unit) :=
 match aaN ((IntKind.u64.wrap s.1), ()) with
 | none => none
 | some r0 =>
  bif decide (r0.1 < 0) then
   none
  else
   let t1 : Int := (IntKind.u64.wrap (1 * 2 ^ (min (Int.toNat r0.1) IntKind.u64.bits)))
   some (t1, ())
def w6 (s : Int × Unit) : Option fi :=
 let t0 : Int := (IntKind.u64.wrap (s.1 * 2 ^ (min (Int.toNat 13) IntKind.u64.bits)))
 let t1 : Int := (IntKind.u64.wrap ((BitVec.ofInt IntKind.u64.bits s.1 ^^^ BitVec.ofInt IntKind.u64.bits t0).toNat : Int))
 let t2 : Int := (Int.fdiv t1 (2 ^ (min (Int.toNat 7) IntKind.u64.bits)))
 let t3 : Int := (IntKind.u64.wrap ((BitVec.ofInt IntKind.u64.bits t1 ^^^ BitVec.ofInt IntKind.u64.bits t2).toNat : Int))
 let t4 : Int := (IntKind.u64.wrap (t3 * 2 ^ (min (Int.toNat 17) IntKind.u64.bits)))
 let t5 : Int := (IntKind.u64.wrap ((BitVec.ofInt IntKind.u64.bits t3 ^^^ BitVec.ofInt IntKind.u64.bits t4).toNat : Int))
 some (t5, t5, ())
def fe (s : Int × Int × Int × Int × Int × List aa × Int × Unit) : Option ((Int × Int × Int × Int × List aa × Int × Unit) ⊕ ((List aa × Unit) ⊕ Unit)) :=
 bif (decide (0 <= (IntKind.i64.wrap (s.1 + s.2.2.2.2.1))) && decide (((IntKind.i64.wrap (s.1 + s.2.2.2.2.1)) : Int) < (List.length s.2.2.2.2.2.1 : Int))) then
  let t0 : aa := (List.getD s.2.2.2.2.2.1 (Int.toNat (IntKind.i64.wrap (s.1 + s.2.2.2.2.1))) ([], ([], ())))
  bif decide (0 <= s.2.2.2.1) && decide (s.2.2.2.1 < (List.length s.2.2.2.2.2.1 : Int)) then
   let t1 : aa := (List.getD s.2.2.2.2.2.1 (Int.toNat s.2.2.2.1) ([], ([], ())))
   bif decide (0 <= s.2.2.2.1) && decide (s.2.2.2.1 < (List.length s.2.2.2.2.2.1 : Int)) then
    let t2 : List aa := (List.set s.2.2.2.2.2.1 (Int.toNat s.2.2.2.1) t0)
    bif (decide (0 <= (IntKind.i64.wrap (s.1 + s.2.2.2.2.1))) && decide (((IntKind.i64.wrap (s.1 + s.2.2.2.2.1)) : Int) < (List.length t2 : Int))) then
     let t3 : List aa := (List.set t2 (Int.toNat (IntKind.i64.wrap (s.1 + s.2.2.2.2.1))) t1)
     let t4 : Int := IntKind.i64.wrap (s.2.2.2.1 + 1)
     some (.inl (s.1, s.2.1, s.2.2.1, t4, t3, s.2.2.2.2.2.2.1, ()))
    else none
   else none
  else none
 else none

def gR (s : Int × Int × Int × Int × List aa × Int × Unit) : Option ((Int × Int × Int × Int × List aa × Int × Unit) ⊕ ((List aa × Unit) ⊕ Unit)) :=
 let t0 : Int := IntKind.i64.wrap (Int.tdiv s.2.1 4)
 let t1 : Int := (IntKind.i64.wrap (s.1 + (IntKind.i64.wrap (t0 * 2))))
 let t2 : Bool := (decide (s.2.2.2.1 <= (IntKind.i64.wrap (t1 + 1))))
 bif t2 then
  match w6 (s.2.2.2.2.2.1, ()) with
  | none => none
  | some r3 =>
   let t4 : Int := (IntKind.u64.wrap ((BitVec.ofInt IntKind.u64.bits r3.1 &&& BitVec.ofInt IntKind.u64.bits (IntKind.u64.wrap (s.2.2.1 - 1))).toNat : Int))
   let t5 : Bool := (decide (((IntKind.i64.wrap t4) : Int) >= s.2.1))
   bif t5 then
    let t6 : Int := IntKind.i64.wrap ((IntKind.i64.wrap t4) - s.2.1)
    fe (s.1, s.2.1, s.2.2.1, s.2.2.2.1, t6, s.2.2.2.2.1, r3.2.1, ())
   else
    fe (s.1, s.2.1, s.2.2.1, s.2.2.2.1, (IntKind.i64.wrap t4), s.2.2.2.2.1, r3.2.1, ())
 else
  some (.inr (.inl (s.2.2.2.2.1, ())))
def gT (s : Int × Int × Int × Int × List aa × Int × Unit) : Option ((List aa × Unit) ⊕ Unit) := aP gR s
def je (s : Int × Int × List aa × Unit) : Option (List aa × Unit) :=
 let t0 : Bool := (decide (((IntKind.i64.wrap (s.2.1 - s.1)) : Int) >= 8))
 bif t0 then
  let t1 : Int := (IntKind.u64.wrap (IntKind.i64.wrap (s.2.1 - s.1)))
  match uS ((IntKind.i64.wrap (s.2.1 - s.1)), ()) with
  | none => none
  | some r2 =>
   let t3 : Int := (IntKind.i64.wrap (Int.tdiv (IntKind.i64.wrap (s.2.1 - s.1)) 4))
   let t4 : Int := (IntKind.i64.wrap (s.1 + (IntKind.i64.wrap (t3 * 2))))
   match gT (s.1, (IntKind.i64.wrap (s.2.1 - s.1)), r2.1, (IntKind.i64.wrap (t4 - 1)), s.2.2.1, t1, ()) with
   | none => none
   | some (.inl z5) =>
    some (z5.1, ())
   | some (.inr z5) =>
    none
 else
  some (s.2.2.1, ())
def aQ (slices_pdqsortCmpFunc_api_Span_r : (Int × Int × Int × List aa × Unit) -> Option (List aa × Unit)) (s : Int × Int × Int × Bool × Bool × Int × Int × Bool × List aa × Unit) : Option ((Int × Int × Int × Bool × Bool × Int × Int × List aa × Unit) ⊕ (List aa × Unit)) :=
 bif s.2.2.2.2.2.2.2.1 then
  match eN (s.1, s.2.1, s.2.2.2.2.2.2.2.2.1, ()) with
  | none => none
  | some r0 =>
   bif r0.1 then
    some (.inr (r0.2.1, ()))
   else
    some (.inl (s.1, s.2.1, s.2.2.1, s.2.2.2.1, s.2.2.2.2.1, s.2.2.2.2.2.1, s.2.2.2.2.2.2.1, r0.2.1, ()))
 else
  some (.inl (s.1, s.2.1, s.2.2.1, s.2.2.2.1, s.2.2.2.2.1, s.2.2.2.2.2.1, s.2.2.2.2.2.2.1, s.2.2.2.2.2.2.2.2.1, ()))
def aW (slices_pdqsortCmpFunc_api_Span_r : (Int × Int × Int × List aa × Unit) -> Option (List aa × Unit)) (s : Int × Int × Int × Bool × Bool × Int × Int × Bool × List aa × Unit) : Option ((Int × Int × Int × Int × Int × List aa × Unit) ⊕ (Int × Int × Int × Bool × Bool × List aa × Unit)) :=
 bif s.2.2.2.2.2.2.2.1 then
  match iQ (s.1, s.2.1, s.2.2.2.2.2.2.1, s.2.2.2.2.2.2.2.2.1, ()) with
  | none => none
  | some r0 =>
   some (.inr (r0.1, s.2.1, s.2.2.1, s.2.2.2.1, s.2.2.2.2.1, r0.2.1, ()))
 else
  some (.inl (s.1, s.2.1, s.2.2.1, s.2.2.2.2.2.1, s.2.2.2.2.2.2.1, s.2.2.2.2.2.2.2.2.1, ()))
def bi (slices_pdqsortCmpFunc_api_Span_r : (Int × Int × Int × List aa × Unit) -> Option (List aa × Unit)) (s : Int × Int × Int × Int × Int × List aa × Unit) : Option ((Int × Int × Int × Bool × Bool × List aa × Unit) ⊕ Unit) :=
 match kW (s.1, s.2.1, s.2.2.2.2.1, s.2.2.2.2.2.1, ()) with
 | none => none
 | some r0 =>
  let t1 : Int := IntKind.i64.wrap (Int.tdiv s.2.2.2.1 8)
  let t2 : Bool := (decide (((IntKind.i64.wrap (r0.1 - s.1)) : Int) < (IntKind.i64.wrap (s.2.1 - r0.1))))
  bif t2 then
   let t3 : Bool := (decide (((IntKind.i64.wrap (r0.1 - s.1)) : Int) >= t1))
   match slices_pdqsortCmpFunc_api_Span_r (s.1, r0.1, s.2.2.1, r0.2.2.1, ()) with
   | none => none
   | some r4 =>
    some (.inl ((IntKind.i64.wrap (r0.1 + 1)), s.2.1, s.2.2.1, t3, r0.2.1, r4.1, ()))
  else
   let t3 : Bool := (decide (((IntKind.i64.wrap (s.2.1 - r0.1)) : Int) >= t1))
   match slices_pdqsortCmpFunc_api_Span_r ((IntKind.i64.wrap (r0.1 + 1)), s.2.1, s.2.2.1, r0.2.2.1, ()) with
   | none => none
   | some r4 =>
    some (.inl (s.1, r0.1, s.2.2.1, t3, r0.2.1, r4.1, ()))
def aX (slices_pdqsortCmpFunc_api_Span_r : (Int × Int × Int × List aa × Unit) -> Option (List aa × Unit)) (s : Int × Int × Int × Bool × Bool × Int × Int × List aa × Unit) : Option ((Int × Int × Int × Bool × Bool × List aa × Unit) ⊕ (Int × Int × Int × Bool × Bool × List aa × Unit)) :=
 bif decide (s.1 > 0) then
  bif (decide (0 <= (IntKind.i64.wrap (s.1 - 1))) && decide (((IntKind.i64.wrap (s.1 - 1)) : Int) < (List.length s.2.2.2.2.2.2.2.1 : Int))) then
   let t0 : aa := (List.getD s.2.2.2.2.2.2.2.1 (Int.toNat (IntKind.i64.wrap (s.1 - 1))) ([], ([], ())))
   bif decide (0 <= s.2.2.2.2.2.2.1) && decide (s.2.2.2.2.2.2.1 < (List.length s.2.2.2.2.2.2.2.1 : Int)) then
    let t1 : aa := (List.getD s.2.2.2.2.2.2.2.1 (Int.toNat s.2.2.2.2.2.2.1) ([], ([], ())))
    match cW (t0, t1, ()) with
    | none => none
    | some r2 =>
     match aW slices_pdqsortCmpFunc_api_Span_r (s.1, s.2.1, s.2.2.1, s.2.2.2.1, s.2.2.2.2.1, s.2.2.2.2.2.1, s.2.2.2.2.2.2.1, (!(decide (r2.1 < 0))), s.2.2.2.2.2.2.2.1, ()) with
     | none => none
     | some (.inl z3) =>
      match bi slices_pdqsortCmpFunc_api_Span_r (z3.1, z3.2.1, z3.2.2.1, z3.2.2.2.1, z3.2.2.2.2.1, z3.2.2.2.2.2.1, ()) with
      | none => none
      | some (.inl z4) =>
       some (.inl (z4.1, z4.2.1, z4.2.2.1, z4.2.2.2.1, z4.2.2.2.2.1, z4.2.2.2.2.2.1, ()))
      | some (.inr z4) =>
       none
     | some (.inr z3) =>
      some (.inr (z3.1, z3.2.1, z3.2.2.1, z3.2.2.2.1, z3.2.2.2.2.1, z3.2.2.2.2.2.1, ()))
   else none
  else none
 else
  match aW slices_pdqsortCmpFunc_api_Span_r (s.1, s.2.1, s.2.2.1, s.2.2.2.1, s.2.2.2.2.1, s.2.2.2.2.2.1, s.2.2.2.2.2.2.1, false, s.2.2.2.2.2.2.2.1, ()) with
  | none => none
  | some (.inl z0) =>
   match bi slices_pdqsortCmpFunc_api_Span_r (z0.1, z0.2.1, z0.2.2.1, z0.2.2.2.1, z0.2.2.2.2.1, z0.2.2.2.2.2.1, ()) with
   | none => none
   | some (.inl z1) =>
    some (.inl (z1.1, z1.2.1, z1.2.2.1, z1.2.2.2.1, z1.2.2.2.2.1, z1.2.2.2.2.2.1, ()))
   | some (.inr z1) =>
    none
  | some (.inr z0) =>
   some (.inr (z0.1, z0.2.1, z0.2.2.1, z0.2.2.2.1, z0.2.2.2.2.1, z0.2.2.2.2.2.1, ()))
def jj (slices_pdqsortCmpFunc_api_Span_r : (Int × Int × Int × List aa × Unit) -> Option (List aa × Unit)) (s : Int × Int × Int × Bool × Bool × Int × Int × Int × List aa × Unit) : Option ((Int × Int × Int × Bool × Bool × List aa × Unit) ⊕ ((List aa × Unit) ⊕ Unit)) :=
 bif s.2.2.2.1 then
  bif s.2.2.2.2.1 then
   let t0 : Bool := decide (s.2.2.2.2.2.2.2.1 = 1)
   match aQ slices_pdqsortCmpFunc_api_Span_r (s.1, s.2.1, s.2.2.1, s.2.2.2.1, s.2.2.2.2.1, s.2.2.2.2.2.1, s.2.2.2.2.2.2.1, t0, s.2.2.2.2.2.2.2.2.1, ()) with
   | none => none
   | some (.inl z1) =>
    match aX slices_pdqsortCmpFunc_api_Span_r (z1.1, z1.2.1, z1.2.2.1, z1.2.2.2.1, z1.2.2.2.2.1, z1.2.2.2.2.2.1, z1.2.2.2.2.2.2.1, z1.2.2.2.2.2.2.2.1, ()) with
    | none => none
    | some (.inl z2) =>
     some (.inl (z2.1, z2.2.1, z2.2.2.1, z2.2.2.2.1, z2.2.2.2.2.1, z2.2.2.2.2.2.1, ()))
    | some (.inr z2) =>
     some (.inl (z2.1, z2.2.1, z2.2.2.1, z2.2.2.2.1, z2.2.2.2.2.1, z2.2.2.2.2.2.1, ()))
   | some (.inr z1) =>
    some (.inr (.inl (z1.1, ())))
  else
   match aQ slices_pdqsortCmpFunc_api_Span_r (s.1, s.2.1, s.2.2.1, s.2.2.2.1, s.2.2.2.2.1, s.2.2.2.2.2.1, s.2.2.2.2.2.2.1, false, s.2.2.2.2.2.2.2.2.1, ()) with
   | none => none
   | some (.inl z0) =>
    match aX slices_pdqsortCmpFunc_api_Span_r (z0.1, z0.2.1, z0.2.2.1, z0.2.2.2.1, z0.2.2.2.2.1, z0.2.2.2.2.2.1, z0.2.2.2.2.2.2.1, z0.2.2.2.2.2.2.2.1, ()) with
    | none => none
    | some (.inl z1) =>
     some (.inl (z1.1, z1.2.1, z1.2.2.1, z1.2.2.2.1, z1.2.2.2.2.1, z1.2.2.2.2.2.1, ()))
    | some (.inr z1) =>
     some (.inl (z1.1, z1.2.1, z1.2.2.1, z1.2.2.2.1, z1.2.2.2.2.1, z1.2.2.2.2.2.1, ()))
   | some (.inr z0) =>
    some (.inr (.inl (z0.1, ())))
 else
  match aQ slices_pdqsortCmpFunc_api_Span_r (s.1, s.2.1, s.2.2.1, s.2.2.2.1, s.2.2.2.2.1, s.2.2.2.2.2.1, s.2.2.2.2.2.2.1, false, s.2.2.2.2.2.2.2.2.1, ()) with
  | none => none
  | some (.inl z0) =>
   match aX slices_pdqsortCmpFunc_api_Span_r (z0.1, z0.2.1, z0.2.2.1, z0.2.2.2.1, z0.2.2.2.2.1, z0.2.2.2.2.2.1, z0.2.2.2.2.2.2.1, z0.2.2.2.2.2.2.2.1, ()) with
   | none => none
   | some (.inl z1) =>
    some (.inl (z1.1, z1.2.1, z1.2.2.1, z1.2.2.2.1, z1.2.2.2.2.1, z1.2.2.2.2.2.1, ()))
   | some (.inr z1) =>
    some (.inl (z1.1, z1.2.1, z1.2.2.1, z1.2.2.2.1, z1.2.2.2.2.1, z1.2.2.2.2.2.1, ()))
  | some (.inr z0) =>
   some (.inr (.inl (z0.1, ())))
def ji (slices_pdqsortCmpFunc_api_Span_r : (Int × Int × Int × List aa × Unit) -> Option (List aa × Unit)) (s : Int × Int × Int × Bool × Bool × Int × List aa × Unit) : Option ((Int × Int × Int × Bool × Bool × List aa × Unit) ⊕ ((List aa × Unit) ⊕ Unit)) :=
 match ko (s.1, s.2.1, s.2.2.2.2.2.2.1, ()) with
 | none => none
 | some r0 =>
  bif decide (r0.2.1 = 2) then
   match jC (s.1, s.2.1, r0.2.2.1, ()) with
   | none => none
   | some r1 =>
    let t2 : Int := (IntKind.i64.wrap ((IntKind.i64.wrap (s.2.1 - 1)) - (IntKind.i64.wrap (r0.1 - s.1))))
    jj slices_pdqsortCmpFunc_api_Span_r (s.1, s.2.1, s.2.2.1, s.2.2.2.1, s.2.2.2.2.1, s.2.2.2.2.2.1, t2, 1, r1.1, ())
  else
   jj slices_pdqsortCmpFunc_api_Span_r (s.1, s.2.1, s.2.2.1, s.2.2.2.1, s.2.2.2.2.1, s.2.2.2.2.2.1, r0.1, r0.2.1, r0.2.2.1, ())

def eH (slices_pdqsortCmpFunc_api_Span_r : (Int × Int × Int × List aa × Unit) -> Option (List aa × Unit)) (s : Int × Int × Int × Bool × Bool × List aa × Unit) : Option ((Int × Int × Int × Bool × Bool × List aa × Unit) ⊕ ((List aa × Unit) ⊕ Unit)) :=
 let t0 : Bool := (decide (((IntKind.i64.wrap (s.2.1 - s.1)) : Int) <= 12))
 bif t0 then
  match jf (s.1, s.2.1, s.2.2.2.2.2.1, ()) with
  | none => none
  | some r1 =>
   some (.inr (.inl (r1.1, ())))
 else
  bif decide (s.2.2.1 = 0) then
   match lz (s.1, s.2.1, s.2.2.2.2.2.1, ()) with
   | none => none
   | some r1 =>
    some (.inr (.inl (r1.1, ())))
  else
   bif !s.2.2.2.1 then
    match je (s.1, s.2.1, s.2.2.2.2.2.1, ()) with
    | none => none
    | some r1 =>
     ji slices_pdqsortCmpFunc_api_Span_r (s.1, s.2.1, (IntKind.i64.wrap (s.2.2.1 - 1)), s.2.2.2.1, s.2.2.2.2.1, (IntKind.i64.wrap (s.2.1 - s.1)), r1.1, ())
   else
    ji slices_pdqsortCmpFunc_api_Span_r (s.1, s.2.1, s.2.2.1, s.2.2.2.1, s.2.2.2.2.1, (IntKind.i64.wrap (s.2.1 - s.1)), s.2.2.2.2.2.1, ())
def eI (slices_pdqsortCmpFunc_api_Span_r : (Int × Int × Int × List aa × Unit) -> Option (List aa × Unit)) (s : Int × Int × Int × Bool × Bool × List aa × Unit) : Option ((List aa × Unit) ⊕ Unit) := aP (eH slices_pdqsortCmpFunc_api_Span_r) s
def dU (slices_pdqsortCmpFunc_api_Span_r : (Int × Int × Int × List aa × Unit) -> Option (List aa × Unit)) (s : Int × Int × Int × List aa × Unit) : Option (List aa × Unit) :=
 match eI slices_pdqsortCmpFunc_api_Span_r (s.1, s.2.1, s.2.2.1, true, true, s.2.2.2.1, ()) with
 | none => none
 | some (.inl z0) =>
  some (z0.1, ())
 | some (.inr z0) =>
  none
def dT : Nat -> (Int × Int × Int × List aa × Unit) -> Option (List aa × Unit)
 | 0, _ => none
 | n + 1, s => dU (dT n) s
def lS (s : Int × Int × Int × List aa × Unit) : Option (List aa × Unit) := dT aqr s
def kF (s : List aa × Unit) : Option (List aa × Unit) :=
 let t0 : Int := (IntKind.u64.wrap ((List.length s.1) : Int))
 match aaN (t0, ()) with
 | none => none
 | some r1 =>
  match lS (0, ((List.length s.1) : Int), r1.1, s.1, ()) with
  | none => none
  | some r2 =>
   some (r2.1, ())
def sx (s : List UInt8 × Unit) : Option (Bool × Unit) :=
 some ((!decide ((s.1 : List UInt8) = s.1)), ())
def wo (s : aa) : Option (Int × Unit) :=
 match sx (s.1, ()) with
 | none => none
 | some r0 =>
  match sx (s.2.1, ()) with
  | none => none
  | some r1 =>
   bif r0.1 then
    bif r1.1 then
     some (0, ())
    else
     some ((-1 : Int), ())
   else
    bif r1.1 then
     some (1, ())
    else
     bif (Op.bytesLess s.1 s.2.1) then
      some ((-1 : Int), ())
     else
      let t2 : Bool := (!(Op.bytesLess s.1 s.2.1 || decide ((s.1 : List UInt8) = s.2.1)))
      bif t2 then
       some (1, ())
      else
       some (0, ())
def qy (s : aa) : Option (Int × Unit) :=
 bif decide ((s.1 : List UInt8) = s.2.1) then
  some (0, ())
 else
  let t0 : Bool := decide ((s.1 : List UInt8) = [])
  bif t0 then
   some (1, ())
  else
   let t1 : Bool := decide ((s.2.1 : List UInt8) = [])
   bif t1 then
    some ((-1 : Int), ())
   else
    match wo (s.1, s.2.1, ()) with
    | none => none
    | some r2 =>
     some (r2.1, ())
def aqF (s : Int × Int × Int × List aa × aa × List aa × Unit) : Option ((Int × Int × List aa × List aa × Unit) ⊕ ((List aa × Unit) ⊕ Unit)) :=
 bif (decide (0 <= (IntKind.i64.wrap (s.1 - 1))) && decide (((IntKind.i64.wrap (s.1 - 1)) : Int) < (List.length s.2.2.2.1 : Int))) then
  let t0 : aa := (List.getD s.2.2.2.1 (Int.toNat (IntKind.i64.wrap (s.1 - 1))) ([], ([], ())))
  match qy (t0.2.1, s.2.2.2.2.1.2.1, ()) with
  | none => none
  | some r1 =>
   bif decide (r1.1 < 0) then
    bif (decide (0 <= (IntKind.i64.wrap (s.1 - 1))) && decide (((IntKind.i64.wrap (s.1 - 1)) : Int) < (List.length s.2.2.2.1 : Int))) then
     let t2 : List aa := (List.set s.2.2.2.1 (Int.toNat (IntKind.i64.wrap (s.1 - 1))) ((List.getD s.2.2.2.1 (Int.toNat (IntKind.i64.wrap (s.1 - 1))) ([], ([], ()))).1, (s.2.2.2.2.1.2.1, (List.getD s.2.2.2.1 (Int.toNat (IntKind.i64.wrap (s.1 - 1))) ([], ([], ()))).2.2)))
     some (.inl (s.2.1, (IntKind.i64.wrap (s.2.2.1 + 1)), t2, s.2.2.2.2.2.1, ()))
    else none
   else
    some (.inl (s.2.1, (IntKind.i64.wrap (s.2.2.1 + 1)), s.2.2.2.1, s.2.2.2.2.2.1, ()))
 else none
def xf (s : Int × Int × Int × Bool × List aa × aa × List aa × Unit) : Option ((Int × Int × List aa × List aa × Unit) ⊕ ((List aa × Unit) ⊕ Unit)) :=
 bif s.2.2.2.1 then
  bif (decide ((List.length s.2.2.2.2.1 + List.length ([s.2.2.2.2.2.1] : List aa)) * 32 <= aw)) then
   let t0 : List aa := (s.2.2.2.2.1 ++ ([s.2.2.2.2.2.1] : List aa))
   some (.inl (s.2.1, (IntKind.i64.wrap (s.2.2.1 + 1)), t0, s.2.2.2.2.2.2.1, ()))
  else none
 else
  aqF (s.1, s.2.1, s.2.2.1, s.2.2.2.2.1, s.2.2.2.2.2.1, s.2.2.2.2.2.2.1, ())

def am3 (s : Int × Int × List aa × List aa × Unit) : Option ((Int × Int × List aa × List aa × Unit) ⊕ ((List aa × Unit) ⊕ Unit)) :=
 bif decide (s.2.1 < s.1) then
  bif decide (0 <= s.2.1) && decide (s.2.1 < (List.length s.2.2.2.1 : Int)) then
   let t0 : aa := (List.getD s.2.2.2.1 (Int.toNat s.2.1) ([], ([], ())))
   let t1 : Bool := (decide ((((List.length s.2.2.1) : Int) : Int) = 0))
   bif !t1 then
    let t2 : Int := (IntKind.i64.wrap (((List.length s.2.2.1) : Int) - 1))
    bif decide (0 <= t2) && decide (t2 < (List.length s.2.2.1 : Int)) then
     let t3 : aa := (List.getD s.2.2.1 (Int.toNat t2) ([], ([], ())))
     let t4 : Bool := (!decide ((t3.2.1 : List UInt8) = []))
     bif t4 then
      let t5 : Int := (IntKind.i64.wrap (((List.length s.2.2.1) : Int) - 1))
      bif decide (0 <= t5) && decide (t5 < (List.length s.2.2.1 : Int)) then
       let t6 : aa := (List.getD s.2.2.1 (Int.toNat t5) ([], ([], ())))
       xf (((List.length s.2.2.1) : Int), s.1, s.2.1, (Op.bytesLess t6.2.1 t0.1), s.2.2.1, t0, s.2.2.2.1, ())
      else none
     else
      xf (((List.length s.2.2.1) : Int), s.1, s.2.1, false, s.2.2.1, t0, s.2.2.2.1, ())
    else none
   else
    xf (((List.length s.2.2.1) : Int), s.1, s.2.1, true, s.2.2.1, t0, s.2.2.2.1, ())
  else none
 else
  some (.inr (.inl (s.2.2.1, ())))
def am5 (s : Int × Int × List aa × List aa × Unit) : Option ((List aa × Unit) ⊕ Unit) := aP am3 s
def acl (s : List aa × Unit) : Option (List aa × Unit) :=
 match lR (s.1, ()) with
 | none => none
 | some r0 =>
  match jt (r0.1, ()) with
  | none => none
  | some r1 =>
   match kF (r1.1, ()) with
   | none => none
   | some r2 =>
    match am5 (((List.length r2.1) : Int), 0, [], r2.1, ()) with
    | none => none
    | some (.inl z3) =>
     some (z3.1, ())
    | some (.inr z3) =>
     none
def agG (s : List UInt8 × Unit) : Option (aa × Unit) :=
 bif decide (List.length s.1 + List.length ([0] : List UInt8) <= aw) then
  some ((s.1, ((s.1 ++ ([0] : List UInt8)), ())), ())
 else none
def am6 (s : List UInt8 × List aa × Int × Int × List aa × Unit) : Option ((List UInt8 × List aa × Int × Int × List aa × Unit) ⊕ ((List aa × Unit) ⊕ (List UInt8 × List aa × Unit))) :=
 bif decide (s.2.2.2.1 < s.2.2.1) then
  bif decide (0 <= s.2.2.2.1) && decide (s.2.2.2.1 < (List.length s.2.1 : Int)) then
   let t0 : aa := (List.getD s.2.1 (Int.toNat s.2.2.2.1) ([], ([], ())))
   let t1 : Bool := (!decide ((t0.1 : List UInt8) = []))
   bif t1 then
    bif (decide ((List.length s.2.2.2.2.1 + List.length ([(s.1, (t0.1, ()))] : List aa)) * 32 <= aw)) then
     let t2 : List aa := (s.2.2.2.2.1 ++ ([(s.1, (t0.1, ()))] : List aa))
     let t3 : Bool := decide ((t0.2.1 : List UInt8) = [])
     bif t3 then
      some (.inr (.inl (t2, ())))
     else
      let t4 : Int := IntKind.i64.wrap (s.2.2.2.1 + 1)
      some (.inl (t0.2.1, s.2.1, s.2.2.1, t4, t2, ()))
    else none
   else
    let t2 : Bool := decide ((t0.2.1 : List UInt8) = [])
    bif t2 then
     some (.inr (.inl (s.2.2.2.2.1, ())))
    else
     let t3 : Int := IntKind.i64.wrap (s.2.2.2.1 + 1)
     some (.inl (t0.2.1, s.2.1, s.2.2.1, t3, s.2.2.2.2.1, ()))
  else none
 else
  some (.inr (.inr (s.1, s.2.2.2.2.1, ())))
def am8 (s : List UInt8 × List aa × Int × Int × List aa × Unit) : Option ((List aa × Unit) ⊕ (List UInt8 × List aa × Unit)) := aP am6 s
def axf (s : List aa × Unit) : Option (List aa × Unit) :=
 match am8 ([], s.1, ((List.length s.1) : Int), 0, [], ()) with
 | none => none
 | some (.inl z0) =>
  some (z0.1, ())
 | some (.inr z0) =>
  bif (decide ((List.length z0.2.1 + List.length ([(z0.1, ([], ()))] : List aa)) * 32 <= aw)) then
   let t1 : List aa := (z0.2.1 ++ ([(z0.1, ([], ()))] : List aa))
   some (t1, ())
  else none
def jy (s : (List (List UInt8)) × List UInt8 × Int × Unit) : Option (((List (List UInt8)) × List UInt8 × Int × Unit) ⊕ ((List UInt8 × Unit) ⊕ Unit)) :=
 let t0 : Bool := (decide (s.2.2.1 < ((List.length s.1) : Int)))
 bif t0 then
  bif decide (0 <= s.2.2.1) && decide (s.2.2.1 < (List.length s.1 : Int)) then
   let t1 : List UInt8 := (List.getD s.1 (Int.toNat s.2.2.1) [])
   match qy (t1, s.2.1, ()) with
   | none => none
   | some r2 =>
    bif decide (r2.1 < 0) then
     bif decide (0 <= s.2.2.1) && decide (s.2.2.1 < (List.length s.1 : Int)) then
      let t3 : List UInt8 := (List.getD s.1 (Int.toNat s.2.2.1) [])
      some (.inl (s.1, t3, (IntKind.i64.wrap (s.2.2.1 + 1)), ()))
     else none
    else
     some (.inl (s.1, s.2.1, (IntKind.i64.wrap (s.2.2.1 + 1)), ()))
  else none
 else
  some (.inr (.inl (s.2.1, ())))
def j0 (s : (List (List UInt8)) × List UInt8 × Int × Unit) : Option ((List UInt8 × Unit) ⊕ Unit) := aP jy s
def kT (s : (List (List UInt8)) × Unit) : Option (List UInt8 × Unit) :=
 let t0 : Bool := (decide ((((List.length s.1) : Int) : Int) < 1))
 bif t0 then
  none
 else
  bif decide ((0 : Int) < (List.length s.1 : Int)) then
   match j0 (s.1, (List.getD s.1 0 []), 1, ()) with
   | none => none
   | some (.inl z1) =>
    some (z1.1, ())
   | some (.inr z1) =>
    none
  else none
def aud (s : (List (List UInt8)) × Unit) : Option (List UInt8 × Unit) :=
 match kT (s.1, ()) with
 | none => none
 | some r0 =>
  some (r0.1, ())
def xU (s : aa × aa × Unit) : Option (aa × Unit) :=
 let t0 : List UInt8 := (bif !(Op.bytesLess s.1.1 s.2.1.1) then s.1.1 else s.2.1.1)
 match aud (([s.1.2.1, s.2.1.2.1] : List (List UInt8)), ()) with
 | none => none
 | some r1 =>
  match mP ((t0, (r1.1, ())), ()) with
  | none => none
  | some r2 =>
   bif r2.1 then
    some ((([97] : List UInt8), (([97] : List UInt8), ())), ())
   else
    some ((t0, (r1.1, ())), ())
def ajq (s : List aa × Int × Int × List aa × Int × Int × List aa × aa × List aa × Unit) : Option ((List aa × Int × Int × List aa × Int × Int × List aa × aa × List aa × Unit) ⊕ ((List aa × Int × Int × List aa × List aa × Unit) ⊕ Unit)) :=
 let t0 : Bool := decide (s.2.2.2.2.2.1 < s.2.2.2.2.1)
 bif t0 then
  bif decide (0 <= s.2.2.2.2.2.1) && decide (s.2.2.2.2.2.1 < (List.length s.2.2.2.1 : Int)) then
   let t1 : aa := (List.getD s.2.2.2.1 (Int.toNat s.2.2.2.2.2.1) ([], ([], ())))
   match xU (s.2.2.2.2.2.2.2.1, t1, ()) with
   | none => none
   | some r2 =>
    bif (decide ((List.length s.2.2.2.2.2.2.1 + List.length ([r2.1] : List aa)) * 32 <= aw)) then
     let t3 : List aa := (s.2.2.2.2.2.2.1 ++ ([r2.1] : List aa))
     let t4 : Int := IntKind.i64.wrap (s.2.2.2.2.2.1 + 1)
     some (.inl (s.1, s.2.1, s.2.2.1, s.2.2.2.1, s.2.2.2.2.1, t4, t3, s.2.2.2.2.2.2.2.1, s.2.2.2.2.2.2.2.2.1, ()))
    else none
  else none
 else
  some (.inr (.inl (s.1, s.2.1, s.2.2.1, s.2.2.2.2.2.2.1, s.2.2.2.2.2.2.2.2.1, ())))
def ajs (s : List aa × Int × Int × List aa × Int × Int × List aa × aa × List aa × Unit) : Option ((List aa × Int × Int × List aa × List aa × Unit) ⊕ Unit) := aP ajq s
def ajp (s : List aa × Int × Int × List aa × List aa × Unit) : Option ((List aa × Int × Int × List aa × List aa × Unit) ⊕ ((List aa × Unit) ⊕ Unit)) :=
 bif decide (s.2.2.1 < s.2.1) then
  bif decide (0 <= s.2.2.1) && decide (s.2.2.1 < (List.length s.2.2.2.2.1 : Int)) then
   let t0 : aa := (List.getD s.2.2.2.2.1 (Int.toNat s.2.2.1) ([], ([], ())))
   match ajs (s.1, s.2.1, s.2.2.1, s.1, ((List.length s.1) : Int), 0, s.2.2.2.1, t0, s.2.2.2.2.1, ()) with
   | none => none
   | some (.inl z1) =>
    let t2 : Int := IntKind.i64.wrap (z1.2.2.1 + 1)
    some (.inl (z1.1, z1.2.1, t2, z1.2.2.2.1, z1.2.2.2.2.1, ()))
   | some (.inr z1) =>
    none
  else none
 else
  some (.inr (.inl (s.2.2.2.1, ())))
def ajr (s : List aa × Int × Int × List aa × List aa × Unit) : Option ((List aa × Unit) ⊕ Unit) := aP ajp s
def atZ (s : List aa × List aa × Unit) : Option (List aa × Unit) :=
 match acl (s.2.1, ()) with
 | none => none
 | some r0 =>
  match axf (r0.1, ()) with
  | none => none
  | some r1 =>
   match ajr (s.1, ((List.length r1.1) : Int), 0, [], r1.1, ()) with
   | none => none
   | some (.inl z2) =>
    match acl (z2.1, ()) with
    | none => none
    | some r3 =>
     some (r3.1, ())
   | some (.inr z2) =>
    none
def vS (s : List aa × List aa × Unit) : Option (List aa × List aa × Unit) :=
 match atZ (s.2.1, s.1, ()) with
 | none => none
 | some r0 =>
  some (s.2.1, r0.1, ())
def aak (s : List UInt8 × Bool × List UInt8 × List UInt8 × List Int × Unit) : Option ((List UInt8 × List UInt8 × List UInt8 × List Int × Unit) ⊕ ((List UInt8 × List UInt8 × List UInt8 × List Int × Unit) ⊕ Unit)) :=
 bif s.2.1 then
  let t0 : Int := (IntKind.i64.wrap (((List.length s.2.2.2.2.1) : Int) - 1))
  bif decide ((0 : Int) <= t0) && decide (t0 <= (List.length s.2.2.2.2.1 : Int)) then
   some (.inl (s.1, s.2.2.1, s.2.2.2.1, (List.take (Int.toNat t0) s.2.2.2.2.1), ()))
  else none
 else
  some (.inr (.inl (s.1, s.2.2.1, s.2.2.2.1, s.2.2.2.2.1, ())))

def agH (s : List UInt8 × List UInt8 × List UInt8 × List Int × Unit) : Option ((List UInt8 × List UInt8 × List UInt8 × List Int × Unit) ⊕ ((List UInt8 × List UInt8 × List UInt8 × List Int × Unit) ⊕ Unit)) :=
 let t0 : Bool := (decide ((((List.length s.2.2.2.1) : Int) : Int) > 0))
 bif t0 then
  let t1 : Int := (IntKind.i64.wrap (((List.length s.2.2.2.1) : Int) - 1))
  bif decide (0 <= t1) && decide (t1 < (List.length s.2.2.2.1 : Int)) then
   let t2 : Int := (List.getD s.2.2.2.1 (Int.toNat t1) 0)
   aak (s.1, (decide (t2 = 255)), s.2.1, s.2.2.1, s.2.2.2.1, ())
  else none
 else
  aak (s.1, false, s.2.1, s.2.2.1, s.2.2.2.1, ())
def agJ (s : List UInt8 × List UInt8 × List UInt8 × List Int × Unit) : Option ((List UInt8 × List UInt8 × List UInt8 × List Int × Unit) ⊕ Unit) := aP agH s
def dD (s : List UInt8 × Unit) : Option (aa × Unit) :=
 bif decide (List.length s.1 <= aw) then
  match agJ (s.1, [], [], (er s.1), ()) with
  | none => none
  | some (.inl z0) =>
   let t1 : Bool := (decide ((((List.length z0.2.2.2.1) : Int) : Int) > 0))
   bif t1 then
    let t2 : Int := (IntKind.i64.wrap (((List.length z0.2.2.2.1) : Int) - 1))
    bif decide (0 <= t2) && decide (t2 < (List.length z0.2.2.2.1 : Int)) then
     let t3 : Int := (List.getD z0.2.2.2.1 (Int.toNat t2) 0)
     bif decide (0 <= t2) && decide (t2 < (List.length z0.2.2.2.1 : Int)) then
      let t4 : List Int := (List.set z0.2.2.2.1 (Int.toNat t2) (IntKind.u8.wrap (t3 + 1)))
      some ((z0.1, ((w5 t4), ())), ())
     else none
    else none
   else
    some ((z0.1, ((w5 z0.2.2.2.1), ())), ())
  | some (.inr z0) =>
   none
 else none
def apq (s : aa × List UInt8 × List UInt8 × Unit) : Option (aa × Unit) :=
 match dD (s.2.2.1, ()) with
 | none => none
 | some r0 =>
  match sD (s.1.1, s.2.1, s.2.2.1, ()) with
  | none => none
  | some r1 =>
   match sD (s.1.2.1, s.2.1, s.2.2.1, ()) with
   | none => none
   | some r2 =>
    bif r2.2.1 then
     some ((r1.1, (r2.1, ())), ())
    else
     some ((r1.1, (r0.1.2.1, ())), ())
def uX (s : Int × Int × Int × List aa × ai × aa × List aa × Unit) : Option ((Int × Int × Int × List aa × ai × aa × List aa × Unit) ⊕ ((Int × List aa × List aa × Unit) ⊕ Unit)) :=
 bif decide (s.2.1 < s.1) then
  bif decide (0 <= s.2.1) && decide (s.2.1 < (List.length s.2.2.2.1 : Int)) then
   let t0 : aa := (List.getD s.2.2.2.1 (Int.toNat s.2.1) ([], ([], ())))
   match xU (t0, s.2.2.2.2.2.1, ()) with
   | none => none
   | some r1 =>
    match mP (r1.1, ()) with
    | none => none
    | some r2 =>
     bif !r2.1 then
      match apq (r1.1, s.2.2.2.2.1.2.2.2.2.2.1, s.2.2.2.2.1.2.2.2.2.1, ()) with
      | none => none
      | some r3 =>
       bif (decide ((List.length s.2.2.2.2.2.2.1 + List.length ([r3.1] : List aa)) * 32 <= aw)) then
        let t4 : List aa := (s.2.2.2.2.2.2.1 ++ ([r3.1] : List aa))
        some (.inl (s.1, (IntKind.i64.wrap (s.2.1 + 1)), s.2.2.1, s.2.2.2.1, s.2.2.2.2.1, s.2.2.2.2.2.1, t4, ()))
       else none
     else
      some (.inl (s.1, (IntKind.i64.wrap (s.2.1 + 1)), s.2.2.1, s.2.2.2.1, s.2.2.2.2.1, s.2.2.2.2.2.1, s.2.2.2.2.2.2.1, ()))
  else none
 else
  some (.inr (.inl (s.2.2.1, s.2.2.2.1, s.2.2.2.2.2.2.1, ())))
def ve (s : Int × Int × Int × List aa × ai × aa × List aa × Unit) : Option ((Int × List aa × List aa × Unit) ⊕ Unit) := aP uX s
def vd (s : Int × List aa × ai × aa × List aa × Unit) : Option (Bool × Int × List aa × Unit) :=
 match vS (s.2.2.2.2.1, s.2.1, ()) with
 | none => none
 | some r0 =>
  match ve (((List.length r0.1) : Int), 0, s.1, r0.1, s.2.2.1, s.2.2.2.1, r0.2.1, ()) with
  | none => none
  | some (.inl z1) =>
   match acl (z1.2.2.1, ()) with
   | none => none
   | some r2 =>
    bif decide (z1.1 = -1) then
     some (true, 0, r2.1, ())
    else none
  | some (.inr z1) =>
   none
def vc (s : Bool × Int × List aa × ai × Unit) : Option (Bool × Int × List aa × Unit) :=
 bif s.1 then
  match dD (s.2.2.2.1.2.2.2.2.2.1, ()) with
  | none => none
  | some r0 =>
   let t1 : Bool := decide (s.2.2.2.1.1 = 4)
   bif t1 then
    match dD (s.2.2.2.1.2.2.2.2.1, ()) with
    | none => none
    | some r2 =>
     bif (decide ((List.length ([r0.1] : List aa) + List.length ([r2.1] : List aa)) * 32 <= aw)) then
      let t3 : List aa := (([r0.1] : List aa) ++ ([r2.1] : List aa))
      vd (s.2.1, s.2.2.1, s.2.2.2.1, r0.1, t3, ())
     else none
   else
    vd (s.2.1, s.2.2.1, s.2.2.2.1, r0.1, ([r0.1] : List aa), ())
 else
  bif decide (s.2.1 = -1) then
   some (true, 0, s.2.2.1, ())
  else none
def uZ (s : Int × Bool × Int × List aa × ai × Unit) : Option (Bool × Int × List aa × Unit) :=
 bif s.2.1 then
  match agG (s.2.2.2.2.1.2.1, ()) with
  | none => none
  | some r0 =>
   match vS (([r0.1] : List aa), s.2.2.2.1, ()) with
   | none => none
   | some r1 =>
    bif decide (s.2.2.1 = -1) then
     some (true, 0, r1.2.1, ())
    else none
 else
  bif decide (s.1 = 3) then
   match vS (([s.2.2.2.2.1.2.2.2.1] : List aa), s.2.2.2.1, ()) with
   | none => none
   | some r0 =>
    bif decide (s.2.2.1 = -1) then
     some (true, 0, r0.2.1, ())
    else none
  else
   bif decide (s.1 = 4) then
    vc (true, s.2.2.1, s.2.2.2.1, s.2.2.2.2.1, ())
   else
    vc ((decide (s.1 = 5)), s.2.2.1, s.2.2.2.1, s.2.2.2.2.1, ())

def sF (s : Int × ai × Int × List aa × Unit) : Option (Bool × Int × List aa × Unit) :=
 bif decide (s.2.2.1 = 0) then
  bif decide (s.2.2.1 = 0) then
   bif decide (s.2.1.1 = 1) then
    uZ (s.2.1.1, true, (-1 : Int), s.2.2.2.1, s.2.1, ())
   else
    uZ (s.2.1.1, (decide (s.2.1.1 = 2)), (-1 : Int), s.2.2.2.1, s.2.1, ())
  else none
 else none
def fP (s : Int × Int × List ai × List aa × Unit) : Option ((Int × Int × List ai × List aa × Unit) ⊕ ((Int × List ai × List aa × Unit) ⊕ (Int × List ai × List aa × Unit))) :=
 bif decide (s.1 >= 0) then
  bif decide (0 <= s.1) && decide (s.1 < (List.length s.2.2.1 : Int)) then
   let t0 : ai := (List.getD s.2.2.1 (Int.toNat s.1) (0, ([], ([], (([], ([], ())), ([], ([], (0, ()))))))))
   match sF (s.1, t0, s.2.1, s.2.2.2.1, ()) with
   | none => none
   | some r1 =>
    bif !r1.1 then
     some (.inr (.inl (r1.2.1, s.2.2.1, r1.2.2.1, ())))
    else
     some (.inl ((IntKind.i64.wrap (s.1 - 1)), r1.2.1, s.2.2.1, r1.2.2.1, ()))
  else none
 else
  some (.inr (.inr (s.2.1, s.2.2.1, s.2.2.2.1, ())))
def fR (s : Int × Int × List ai × List aa × Unit) : Option ((Int × List ai × List aa × Unit) ⊕ (Int × List ai × List aa × Unit)) := aP fP s
def i9 (s : Int × List ai × List aa × Unit) : Option (Int × List ai × List aa × Unit) :=
 let t0 : Int := (IntKind.i64.wrap (((List.length s.2.1) : Int) - 1))
 match fR (t0, s.1, s.2.1, s.2.2.1, ()) with
 | none => none
 | some (.inl z1) =>
  some (z1.1, z1.2.1, z1.2.2.1, ())
 | some (.inr z1) =>
  some (z1.1, z1.2.1, z1.2.2.1, ())
def agX (s : aa × List ai × Unit) : Option (List aa × Unit) :=
 match acl (([s.1] : List aa), ()) with
 | none => none
 | some r0 =>
  match cN (s.2.1, ()) with
  | none => none
  | some r1 =>
   match i9 (0, r1.1, r0.1, ()) with
   | none => none
   | some r2 =>
    bif decide (r2.1 = 0) then
     some (r2.2.2.1, ())
    else
     bif decide (r2.1 = 1) then
      some ([], ())
     else none
def ajt (s : List UInt8 × (List (List UInt8)) × Int × Int × aa × List aa × Unit) : Option ((List UInt8 × (List (List UInt8)) × Int × Int × aa × List aa × Unit) ⊕ ((List UInt8 × aa × List aa × Unit) ⊕ Unit)) :=
 bif decide (s.2.2.2.1 < s.2.2.1) then
  bif decide (0 <= s.2.2.2.1) && decide (s.2.2.2.1 < (List.length s.2.1 : Int)) then
   let t0 : List UInt8 := (List.getD s.2.1 (Int.toNat s.2.2.2.1) [])
   match xU (s.2.2.2.2.1, (s.1, (t0, ())), ()) with
   | none => none
   | some r1 =>
    bif (decide ((List.length s.2.2.2.2.2.1 + List.length ([r1.1] : List aa)) * 32 <= aw)) then
     let t2 : List aa := (s.2.2.2.2.2.1 ++ ([r1.1] : List aa))
     let t3 : Int := IntKind.i64.wrap (s.2.2.2.1 + 1)
     some (.inl (t0, s.2.1, s.2.2.1, t3, s.2.2.2.2.1, t2, ()))
    else none
  else none
 else
  some (.inr (.inl (s.1, s.2.2.2.2.1, s.2.2.2.2.2.1, ())))
def ajv (s : List UInt8 × (List (List UInt8)) × Int × Int × aa × List aa × Unit) : Option ((List UInt8 × aa × List aa × Unit) ⊕ Unit) := aP ajt s
def aub (s : aa × (List (List UInt8)) × Unit) : Option (List aa × Unit) :=
 match ajv ([], s.2.1, ((List.length s.2.1) : Int), 0, s.1, [], ()) with
 | none => none
 | some (.inl z0) =>
  match xU (z0.2.1, (z0.1, ([], ())), ()) with
  | none => none
  | some r1 =>
   bif (decide ((List.length z0.2.2.1 + List.length ([r1.1] : List aa)) * 32 <= aw)) then
    let t2 : List aa := (z0.2.2.1 ++ ([r1.1] : List aa))
    some (t2, ())
   else none
 | some (.inr z0) =>
  none
def akt (s : api_Node × aa × Unit) : Option (List aa × Unit) :=
 let t0 : Bool := (decide ((((List.length s.1.2.2.1) : Int) : Int) = 0))
 bif t0 then
  some ([], ())
 else
  match aub (s.2.1, s.1.2.1, ()) with
  | none => none
  | some r1 =>
   some (r1.1, ())
def wJ (s : aa × aa × Unit) : Option (Bool × aa × Unit) :=
 match xU (s.1, s.2.1, ()) with
 | none => none
 | some r0 =>
  match mP (r0.1, ()) with
  | none => none
  | some r1 =>
   some ((!r1.1), s.2.1, ())
def bY (s : List ae × Unit) : Option (List ae × Unit) := bif (decide ((List.length ([] : List ae) + List.length s.1) * 40 <= aw)) then some (s.1, ()) else none
def lw (s : Int × List ae × List ae × Unit) : Option (List ae × List ae × Unit) := a3N 40 s
def axl (s : List ae × ae × Unit) : Option (List ae × Unit) :=
 match tf (s.1, s.2.1.1, ()) with
 | none => none
 | some r0 =>
  match bY (s.1, ()) with
  | none => none
  | some r1 =>
   bif r0.2.1 then
    bif decide (0 <= r0.1) && decide (r0.1 < (List.length r1.1 : Int)) then
     some ((List.set r1.1 (Int.toNat r0.1) s.2.1), ())
    else none
   else
    match lw (r0.1, r1.1, ([s.2.1] : List ae), ()) with
    | none => none
    | some r2 =>
     some (r2.2.1, ())
def aiE (s : ai × List ae × Unit) : Option (List ae × Unit) :=
 match axl (s.2.1, (s.1.2.1, (s.1.2.2.1, (s.1.2.2.2.2.2.2.1, ()))), ()) with
 | none => none
 | some r0 =>
  some (r0.1, ())
def ady (s : List ae × aa × Unit) : Option fi :=
 match mP (s.2.1, ()) with
 | none => none
 | some r0 =>
  bif r0.1 then
   some (0, 0, ())
  else
   match tf (s.1, s.2.1.1, ()) with
   | none => none
   | some r1 =>
    let t2 : Bool := (!decide ((s.2.1.2.1 : List UInt8) = []))
    bif t2 then
     match tf (s.1, s.2.1.2.1, ()) with
     | none => none
     | some r3 =>
      some (r1.1, r3.1, ())
    else
     some (r1.1, ((List.length s.1) : Int), ())
def m9 (s : Int × Unit) : Option (List ae × Unit) :=
 bif decide (s.1 < 0) then
  none
 else
  let t0 : Int := IntKind.i64.wrap (0 - 0)
  let t1 : Bool := (decide (((IntKind.i64.wrap (s.1 - t0)) : Int) > 0))
  bif t1 then
   bif (decide (0 < (IntKind.i64.wrap (s.1 - t0))) && decide ((IntKind.i64.wrap (s.1 - t0)) * 40 <= (aw : Int))) then
    bif (decide (((0 : Int) : Int) <= (List.length (List.replicate (Int.toNat (IntKind.i64.wrap (s.1 - t0))) (([] : List UInt8), (([] : List UInt8), ((0 : Int), ())))) : Int))) then
     let t2 : List ae := (List.take 0 (List.replicate (Int.toNat (IntKind.i64.wrap (s.1 - t0))) (([] : List UInt8), (([] : List UInt8), ((0 : Int), ())))))
     some (t2, ())
    else none
   else none
  else
   some ([], ())
def kf (s : (List (List ae)) × Int × (List (List ae)) × Int × Int × Unit) : Option (((List (List ae)) × Int × (List (List ae)) × Int × Int × Unit) ⊕ (((List (List ae)) × Int × Unit) ⊕ Unit)) :=
 let t0 : Bool := decide (s.2.2.2.2.1 < s.2.2.2.1)
 bif t0 then
  bif decide (0 <= s.2.2.2.2.1) && decide (s.2.2.2.2.1 < (List.length s.2.2.1 : Int)) then
   let t1 : List ae := (List.getD s.2.2.1 (Int.toNat s.2.2.2.2.1) [])
   let t2 : Int := (IntKind.i64.wrap (s.2.1 + ((List.length t1) : Int)))
   bif decide (t2 < 0) then
    none
   else
    let t3 : Int := IntKind.i64.wrap (s.2.2.2.2.1 + 1)
    some (.inl (s.1, t2, s.2.2.1, s.2.2.2.1, t3, ()))
  else none
 else
  some (.inr (.inl (s.1, s.2.1, ())))
def kh (s : (List (List ae)) × Int × (List (List ae)) × Int × Int × Unit) : Option (((List (List ae)) × Int × Unit) ⊕ Unit) := aP kf s
def kg (s : (List (List ae)) × Int × Int × List ae × Unit) : Option (((List (List ae)) × Int × Int × List ae × Unit) ⊕ ((List ae × Unit) ⊕ Unit)) :=
 bif decide (s.2.2.1 < s.2.1) then
  bif decide (0 <= s.2.2.1) && decide (s.2.2.1 < (List.length s.1 : Int)) then
   let t0 : List ae := (List.getD s.1 (Int.toNat s.2.2.1) [])
   bif decide ((List.length s.2.2.2.1 + List.length t0) * 40 <= aw) then
    some (.inl (s.1, s.2.1, (IntKind.i64.wrap (s.2.2.1 + 1)), (s.2.2.2.1 ++ t0), ()))
   else none
  else none
 else
  some (.inr (.inl (s.2.2.2.1, ())))
def ki (s : (List (List ae)) × Int × Int × List ae × Unit) : Option ((List ae × Unit) ⊕ Unit) := aP kg s
def lu (s : (List (List ae)) × Unit) : Option (List ae × Unit) :=
 match kh (s.1, 0, s.1, ((List.length s.1) : Int), 0, ()) with
 | none => none
 | some (.inl z0) =>
  match m9 (z0.2.1, ()) with
  | none => none
  | some r1 =>
   match ki (z0.1, ((List.length z0.1) : Int), 0, r1.1, ()) with
   | none => none
   | some (.inl z2) =>
    some (z2.1, ())
   | some (.inr z2) =>
    none
 | some (.inr z0) =>
  none
def zo (s : List ae × aa × Unit) : Option (List ae × Unit) :=
 match ady (s.1, s.2.1, ()) with
 | none => none
 | some r0 =>
  bif decide ((0 : Int) <= r0.1) && decide (r0.1 <= (List.length s.1 : Int)) then
   let t1 : List ae := (List.drop 0 (List.take (Int.toNat r0.1) s.1))
   bif (decide (0 <= r0.2.1) && decide (r0.2.1 <= (List.length s.1 : Int)) && decide (((List.length s.1 : Int) : Int) <= (List.length s.1 : Int))) then
    let t2 : List ae := (List.drop (Int.toNat r0.2.1) (List.take (Int.toNat (List.length s.1 : Int)) s.1))
    match lu (([t1, t2] : List (List ae)), ()) with
    | none => none
    | some r3 =>
     some (r3.1, ())
   else none
  else none
def axk (s : List ae × List UInt8 × Unit) : Option (List ae × Unit) :=
 match agG (s.2.1, ()) with
 | none => none
 | some r0 =>
  match zo (s.1, r0.1, ()) with
  | none => none
  | some r1 =>
   some (r1.1, ())
def ai9 (s : ai × List ae × Unit) : Option (List ae × Unit) :=
 match axk (s.2.1, s.1.2.1, ()) with
 | none => none
 | some r0 =>
  some (r0.1, ())
def agb (s : ai × List ae × Unit) : Option (List ae × Unit) :=
 match zo (s.2.1, s.1.2.2.2.1, ()) with
 | none => none
 | some r0 =>
  some (r0.1, ())
def apm (s : List ae × aa × Unit) : Option (List ae × Unit) :=
 match ady (s.1, s.2.1, ()) with
 | none => none
 | some r0 =>
  bif (decide (0 <= r0.1) && decide (r0.1 <= r0.2.1) && decide (r0.2.1 <= (List.length s.1 : Int)) && decide (r0.2.1 = r0.2.1)) then
   let t1 : List ae := (List.drop (Int.toNat r0.1) (List.take (Int.toNat r0.2.1) s.1))
   some (t1, ())
  else none
def alT (s : List UInt8 × List UInt8 × Int × Int × List ae × Unit) : Option ((List UInt8 × List UInt8 × Int × Int × List ae × Unit) ⊕ ((List ae × Unit) ⊕ Unit)) :=
 bif decide (s.2.2.2.1 < s.2.2.1) then
  bif decide (0 <= s.2.2.2.1) && decide (s.2.2.2.1 < (List.length s.2.2.2.2.1 : Int)) then
   let t0 : ae := (List.getD s.2.2.2.2.1 (Int.toNat s.2.2.2.1) ([], ([], (0, ()))))
   match sD (t0.1, s.1, s.2.1, ()) with
   | none => none
   | some r1 =>
    bif decide (0 <= s.2.2.2.1) && decide (s.2.2.2.1 < (List.length s.2.2.2.2.1 : Int)) then
     let t2 : List ae := (List.set s.2.2.2.2.1 (Int.toNat s.2.2.2.1) (r1.1, (List.getD s.2.2.2.2.1 (Int.toNat s.2.2.2.1) ([], ([], (0, ())))).2))
     let t3 : Int := IntKind.i64.wrap (s.2.2.2.1 + 1)
     some (.inl (s.1, s.2.1, s.2.2.1, t3, t2, ()))
    else none
  else none
 else
  some (.inr (.inl (s.2.2.2.2.1, ())))
def alV (s : List UInt8 × List UInt8 × Int × Int × List ae × Unit) : Option ((List ae × Unit) ⊕ Unit) := aP alT s
def awX (s : List ae × List UInt8 × List UInt8 × Unit) : Option (List ae × Unit) :=
 match dD (s.2.1, ()) with
 | none => none
 | some r0 =>
  match apm (s.1, r0.1, ()) with
  | none => none
  | some r1 =>
   match bY (r1.1, ()) with
   | none => none
   | some r2 =>
    match alV (s.2.1, s.2.2.1, ((List.length r2.1) : Int), 0, r2.1, ()) with
    | none => none
    | some (.inl z3) =>
     some (z3.1, ())
    | some (.inr z3) =>
     none
def aap (s : List ae × List ae × List ae × Unit) : Option ((List ae × List ae × List ae × Unit) ⊕ ((List ae × List ae × List ae × Unit) ⊕ Unit)) :=
 bif decide ((0 : Int) < (List.length s.2.1 : Int)) then
  let t0 : ae := (List.getD s.2.1 0 ([], ([], (0, ()))))
  bif (decide ((List.length s.2.2.1 + List.length ([t0] : List ae)) * 40 <= aw)) then
   let t1 : List ae := (s.2.2.1 ++ ([t0] : List ae))
   bif (decide ((1 : Int) <= (List.length s.2.1 : Int)) && decide (((List.length s.2.1 : Int) : Int) <= (List.length s.2.1 : Int))) then
    let t2 : List ae := (List.drop (Int.toNat 1) (List.take (Int.toNat (List.length s.2.1 : Int)) s.2.1))
    some (.inl (s.1, t2, t1, ()))
   else none
  else none
 else none
def aaq (s : List ae × List ae × Bool × List ae × Unit) : Option ((List ae × List ae × List ae × Unit) ⊕ ((List ae × List ae × List ae × Unit) ⊕ Unit)) :=
 bif s.2.2.1 then
  some (.inr (.inl (s.1, s.2.1, s.2.2.2.1, ())))
 else
  bif decide ((0 : Int) < (List.length s.1 : Int)) then
   let t0 : ae := (List.getD s.1 0 ([], ([], (0, ()))))
   bif decide ((0 : Int) < (List.length s.2.1 : Int)) then
    let t1 : ae := (List.getD s.2.1 0 ([], ([], (0, ()))))
    bif (Op.bytesLess t0.1 t1.1) then
     bif decide ((0 : Int) < (List.length s.1 : Int)) then
      let t2 : ae := (List.getD s.1 0 ([], ([], (0, ()))))
      bif (decide ((List.length s.2.2.2.1 + List.length ([t2] : List ae)) * 40 <= aw)) then
       let t3 : List ae := (s.2.2.2.1 ++ ([t2] : List ae))
       bif (decide ((1 : Int) <= (List.length s.1 : Int)) && decide (((List.length s.1 : Int) : Int) <= (List.length s.1 : Int))) then
        let t4 : List ae := (List.drop (Int.toNat 1) (List.take (Int.toNat (List.length s.1 : Int)) s.1))
        some (.inl (t4, s.2.1, t3, ()))
       else none
      else none
     else none
    else
     bif decide ((0 : Int) < (List.length s.1 : Int)) then
      let t2 : ae := (List.getD s.1 0 ([], ([], (0, ()))))
      bif decide ((0 : Int) < (List.length s.2.1 : Int)) then
       let t3 : ae := (List.getD s.2.1 0 ([], ([], (0, ()))))
       bif decide ((t2.1 : List UInt8) = t3.1) then
        bif (decide ((1 : Int) <= (List.length s.1 : Int)) && decide (((List.length s.1 : Int) : Int) <= (List.length s.1 : Int))) then
         let t4 : List ae := (List.drop (Int.toNat 1) (List.take (Int.toNat (List.length s.1 : Int)) s.1))
         aap (t4, s.2.1, s.2.2.2.1, ())
        else none
       else
        aap (s.1, s.2.1, s.2.2.2.1, ())
      else none
     else none
   else none
  else none

def agR (s : List ae × List ae × List ae × Unit) : Option ((List ae × List ae × List ae × Unit) ⊕ ((List ae × List ae × List ae × Unit) ⊕ Unit)) :=
 let t0 : Bool := (decide ((((List.length s.1) : Int) : Int) = 0))
 bif !t0 then
  let t1 : Bool := (decide ((((List.length s.2.1) : Int) : Int) = 0))
  aaq (s.1, s.2.1, t1, s.2.2.1, ())
 else
  aaq (s.1, s.2.1, true, s.2.2.1, ())
def agT (s : List ae × List ae × List ae × Unit) : Option ((List ae × List ae × List ae × Unit) ⊕ Unit) := aP agR s
def apn (s : List ae × List ae × Unit) : Option (List ae × Unit) :=
 let t0 : Int := (IntKind.i64.wrap (((List.length s.1) : Int) + ((List.length s.2.1) : Int)))
 bif (decide (0 <= 0) && decide ((0 : Int) <= t0) && decide (t0 * 40 <= (aw : Int))) then
  match agT (s.1, s.2.1, (List.replicate 0 (([] : List UInt8), (([] : List UInt8), ((0 : Int), ())))), ()) with
  | none => none
  | some (.inl z1) =>
   bif decide ((List.length z1.2.2.1 + List.length z1.1) * 40 <= aw) then
    bif (decide ((List.length (z1.2.2.1 ++ z1.1) + List.length z1.2.1) * 40 <= aw)) then
     some (((z1.2.2.1 ++ z1.1) ++ z1.2.1), ())
    else none
   else none
  | some (.inr z1) =>
   none
 else none
def wY (s : ai × List ae × Unit) : Option (List ae × Unit) :=
 match dD (s.1.2.2.2.2.2.1, ()) with
 | none => none
 | some r0 =>
  match zo (s.2.1, r0.1, ()) with
  | none => none
  | some r1 =>
   match awX (s.2.1, s.1.2.2.2.2.1, s.1.2.2.2.2.2.1, ()) with
   | none => none
   | some r2 =>
    match apn (r1.1, r2.1, ()) with
    | none => none
    | some r3 =>
     some (r3.1, ())
def age (s : ai × List ae × Unit) : Option (List ae × Unit) :=
 match wY (s.1, s.2.1, ()) with
 | none => none
 | some r0 =>
  match dD (s.1.2.2.2.2.1, ()) with
  | none => none
  | some r1 =>
   match zo (r0.1, r1.1, ()) with
   | none => none
   | some r2 =>
    some (r2.1, ())
def yR (s : Int × Int × ai × List ae × Unit) : Option ((Int × Int × ai × List ae × Unit) ⊕ ((List ae × Unit) ⊕ Unit)) :=
 bif decide (s.2.1 < s.1) then
  bif decide (0 <= s.2.1) && decide (s.2.1 < (List.length s.2.2.2.1 : Int)) then
   let t0 : ae := (List.getD s.2.2.2.1 (Int.toNat s.2.1) ([], ([], (0, ()))))
   match uJ (s.2.2.1.2.2.2.1, t0.1, ()) with
   | none => none
   | some r1 =>
    bif r1.1 then
     bif decide (0 <= s.2.1) && decide (s.2.1 < (List.length s.2.2.2.1 : Int)) then
      let t2 : List ae := (List.set s.2.2.2.1 (Int.toNat s.2.1) ((List.getD s.2.2.2.1 (Int.toNat s.2.1) ([], ([], (0, ())))).1, ((List.getD s.2.2.2.1 (Int.toNat s.2.1) ([], ([], (0, ())))).2.1, (s.2.2.1.2.2.2.2.2.2.1, (List.getD s.2.2.2.1 (Int.toNat s.2.1) ([], ([], (0, ())))).2.2.2))))
      some (.inl (s.1, (IntKind.i64.wrap (s.2.1 + 1)), s.2.2.1, t2, ()))
     else none
    else
     some (.inl (s.1, (IntKind.i64.wrap (s.2.1 + 1)), s.2.2.1, s.2.2.2.1, ()))
  else none
 else
  some (.inr (.inl (s.2.2.2.1, ())))
def yT (s : Int × Int × ai × List ae × Unit) : Option ((List ae × Unit) ⊕ Unit) := aP yR s
def aei (s : ai × List ae × Unit) : Option (List ae × Unit) :=
 match bY (s.2.1, ()) with
 | none => none
 | some r0 =>
  match yT (((List.length r0.1) : Int), 0, s.1, r0.1, ()) with
  | none => none
  | some (.inl z1) =>
   some (z1.1, ())
  | some (.inr z1) =>
   none
def aoh (s : List ae × ai × Unit) : Option (List ae × Unit) :=
 bif decide (s.2.1.1 = 1) then
  match aiE (s.2.1, s.1, ()) with
  | none => none
  | some r0 =>
   some (r0.1, ())
 else
  bif decide (s.2.1.1 = 2) then
   match ai9 (s.2.1, s.1, ()) with
   | none => none
   | some r0 =>
    some (r0.1, ())
  else
   bif decide (s.2.1.1 = 3) then
    match agb (s.2.1, s.1, ()) with
    | none => none
    | some r0 =>
     some (r0.1, ())
   else
    bif decide (s.2.1.1 = 4) then
     match age (s.2.1, s.1, ()) with
     | none => none
     | some r0 =>
      some (r0.1, ())
    else
     bif decide (s.2.1.1 = 5) then
      match wY (s.2.1, s.1, ()) with
      | none => none
      | some r0 =>
       some (r0.1, ())
     else
      bif decide (s.2.1.1 = 6) then
       match aei (s.2.1, s.1, ()) with
       | none => none
       | some r0 =>
        some (r0.1, ())
      else
       some (s.1, ())
def atd (s : List ae × List ai × Int × Int × Unit) : Option ((List ae × List ai × Int × Int × Unit) ⊕ ((List ae × Unit) ⊕ Unit)) :=
 bif decide (s.2.2.2.1 < s.2.2.1) then
  bif decide (0 <= s.2.2.2.1) && decide (s.2.2.2.1 < (List.length s.2.1 : Int)) then
   let t0 : ai := (List.getD s.2.1 (Int.toNat s.2.2.2.1) (0, ([], ([], (([], ([], ())), ([], ([], (0, ()))))))))
   match aoh (s.1, t0, ()) with
   | none => none
   | some r1 =>
    let t2 : Int := IntKind.i64.wrap (s.2.2.2.1 + 1)
    some (.inl (r1.1, s.2.1, s.2.2.1, t2, ()))
  else none
 else
  some (.inr (.inl (s.1, ())))
def atf (s : List ae × List ai × Int × Int × Unit) : Option ((List ae × Unit) ⊕ Unit) := aP atd s
def ayF (s : List ae × List ai × Unit) : Option (List ae × Unit) :=
 match atf (s.1, s.2.1, ((List.length s.2.1) : Int), 0, ()) with
 | none => none
 | some (.inl z0) =>
  some (z0.1, ())
 | some (.inr z0) =>
  none
def ae0 (s : aa × ae × Unit) : Option (Bool × ae × Unit) :=
 match uJ (s.1, s.2.1.1, ()) with
 | none => none
 | some r0 =>
  some (r0.1, s.2.1, ())
def fZ (s : List aa × Int × Int × ae × Unit) : Option ((List aa × Int × Int × ae × Unit) ⊕ ((Int × ae × Unit) ⊕ (ae × Unit))) :=
 bif decide (s.2.2.1 < s.2.1) then
  bif decide (0 <= s.2.2.1) && decide (s.2.2.1 < (List.length s.1 : Int)) then
   let t0 : aa := (List.getD s.1 (Int.toNat s.2.2.1) ([], ([], ())))
   match ae0 (t0, s.2.2.2.1, ()) with
   | none => none
   | some r1 =>
    bif r1.1 then
     some (.inr (.inl (s.2.2.1, r1.2.1, ())))
    else
     some (.inl (s.1, s.2.1, (IntKind.i64.wrap (s.2.2.1 + 1)), r1.2.1, ()))
  else none
 else
  some (.inr (.inr (s.2.2.2.1, ())))
def gb (s : List aa × Int × Int × ae × Unit) : Option ((Int × ae × Unit) ⊕ (ae × Unit)) := aP fZ s
def iL (s : List aa × ae × Unit) : Option (Int × ae × Unit) :=
 match gb (s.1, ((List.length s.1) : Int), 0, s.2.1, ()) with
 | none => none
 | some (.inl z0) =>
  some (z0.1, z0.2.1, ())
 | some (.inr z0) =>
  some ((-1 : Int), z0.1, ())
def fS (s : List aa × ae × Unit) : Option (Bool × ae × Unit) :=
 match iL (s.1, s.2.1, ()) with
 | none => none
 | some r0 =>
  some ((decide (r0.1 >= 0)), r0.2.1, ())
def abg (s : ae × List aa × Unit) : Option (Bool × List aa × Unit) :=
 match fS (s.2.1, s.1, ()) with
 | none => none
 | some r0 =>
  some ((!r0.1), s.2.1, ())
def iB (s : Int × Int × List ae × List aa × Unit) : Option ((Int × Int × List ae × List aa × Unit) ⊕ ((Int × List ae × List aa × Unit) ⊕ (List ae × List aa × Unit))) :=
 bif decide (s.2.1 < s.1) then
  bif decide (0 <= s.2.1) && decide (s.2.1 < (List.length s.2.2.1 : Int)) then
   let t0 : ae := (List.getD s.2.2.1 (Int.toNat s.2.1) ([], ([], (0, ()))))
   match abg (t0, s.2.2.2.1, ()) with
   | none => none
   | some r1 =>
    bif r1.1 then
     some (.inr (.inl (s.2.1, s.2.2.1, r1.2.1, ())))
    else
     some (.inl (s.1, (IntKind.i64.wrap (s.2.1 + 1)), s.2.2.1, r1.2.1, ()))
  else none
 else
  some (.inr (.inr (s.2.2.1, s.2.2.2.1, ())))
def iD (s : Int × Int × List ae × List aa × Unit) : Option ((Int × List ae × List aa × Unit) ⊕ (List ae × List aa × Unit)) := aP iB s
def kj (s : List ae × List aa × Unit) : Option (Int × List ae × List aa × Unit) :=
 match iD (((List.length s.1) : Int), 0, s.1, s.2.1, ()) with
 | none => none
 | some (.inl z0) =>
  some (z0.1, z0.2.1, z0.2.2.1, ())
 | some (.inr z0) =>
  some ((-1 : Int), z0.1, z0.2.1, ())
def ia (s : Int × Int × List ae × List aa × Unit) : Option ((Int × Int × List ae × List aa × Unit) ⊕ ((Int × List ae × List aa × Unit) ⊕ Unit)) :=
 let t0 : Bool := (decide (s.2.1 < ((List.length s.2.2.1) : Int)))
 bif t0 then
  bif decide (0 <= s.2.1) && decide (s.2.1 < (List.length s.2.2.1 : Int)) then
   let t1 : ae := (List.getD s.2.2.1 (Int.toNat s.2.1) ([], ([], (0, ()))))
   match abg (t1, s.2.2.2.1, ()) with
   | none => none
   | some r2 =>
    bif !r2.1 then
     bif decide (0 <= s.1) && decide (s.1 < (List.length s.2.2.1 : Int)) then
      some (.inl ((IntKind.i64.wrap (s.1 + 1)), (IntKind.i64.wrap (s.2.1 + 1)), (List.set s.2.2.1 (Int.toNat s.1) t1), r2.2.1, ()))
     else none
    else
     some (.inl (s.1, (IntKind.i64.wrap (s.2.1 + 1)), s.2.2.1, r2.2.1, ()))
  else none
 else
  some (.inr (.inl (s.1, s.2.2.1, s.2.2.2.1, ())))
def ic (s : Int × Int × List ae × List aa × Unit) : Option ((Int × List ae × List aa × Unit) ⊕ Unit) := aP ia s
def js (s : List ae × List aa × Unit) : Option (List aa × List ae × Unit) :=
 match kj (s.1, s.2.1, ()) with
 | none => none
 | some r0 =>
  bif decide (r0.1 = (-1 : Int)) then
   some (r0.2.2.1, r0.2.1, ())
  else
   match ic (r0.1, (IntKind.i64.wrap (r0.1 + 1)), r0.2.1, r0.2.2.1, ()) with
   | none => none
   | some (.inl z1) =>
    bif (decide (0 <= z1.1) && decide (z1.1 <= (List.length z1.2.1 : Int)) && decide (((List.length z1.2.1 : Int) : Int) <= (List.length z1.2.1 : Int))) then
     let t2 : List ae := (List.take (Int.toNat z1.1) z1.2.1 ++ List.replicate ((Int.toNat (List.length z1.2.1 : Int)) - (Int.toNat z1.1)) (([] : List UInt8), (([] : List UInt8), ((0 : Int), ()))) ++ List.drop ((Int.toNat z1.1) + ((Int.toNat (List.length z1.2.1 : Int)) - (Int.toNat z1.1))) z1.2.1)
     bif decide ((0 : Int) <= z1.1) && decide (z1.1 <= (List.length t2 : Int)) then
      some (z1.2.2.1, (List.take (Int.toNat z1.1) t2), ())
     else none
    else none
   | some (.inr z1) =>
    none
def aau (s : List ae × List aa × Unit) : Option (List ae × Unit) :=
 match bY (s.1, ()) with
 | none => none
 | some r0 =>
  match js (r0.1, s.2.1, ()) with
  | none => none
  | some r1 =>
   some (r1.2.1, ())
def iU (s : ae × Int × List ae × Unit) : Option (Bool × Int × List ae × Unit) :=
 bif decide (s.2.1 = 0) then
  bif decide (s.2.1 = 0) then
   bif (decide ((List.length s.2.2.1 + List.length ([s.1] : List ae)) * 40 <= aw)) then
    let t0 : List ae := (s.2.2.1 ++ ([s.1] : List ae))
    some (true, 0, t0, ())
   else none
  else none
 else none
def gc (s : Int × Int × List aa × aa × Unit) : Option ((Int × Int × List aa × aa × Unit) ⊕ ((Int × List aa × aa × Unit) ⊕ (List aa × aa × Unit))) :=
 bif decide (s.2.1 < s.1) then
  bif decide (0 <= s.2.1) && decide (s.2.1 < (List.length s.2.2.1 : Int)) then
   let t0 : aa := (List.getD s.2.2.1 (Int.toNat s.2.1) ([], ([], ())))
   match wJ (t0, s.2.2.2.1, ()) with
   | none => none
   | some r1 =>
    bif r1.1 then
     some (.inr (.inl (s.2.1, s.2.2.1, r1.2.1, ())))
    else
     some (.inl (s.1, (IntKind.i64.wrap (s.2.1 + 1)), s.2.2.1, r1.2.1, ()))
  else none
 else
  some (.inr (.inr (s.2.2.1, s.2.2.2.1, ())))
def gh (s : Int × Int × List aa × aa × Unit) : Option ((Int × List aa × aa × Unit) ⊕ (List aa × aa × Unit)) := aP gc s
def iM (s : List aa × aa × Unit) : Option (Int × List aa × aa × Unit) :=
 match gh (((List.length s.1) : Int), 0, s.1, s.2.1, ()) with
 | none => none
 | some (.inl z0) =>
  some (z0.1, z0.2.1, z0.2.2.1, ())
 | some (.inr z0) =>
  some ((-1 : Int), z0.1, z0.2.1, ())
def fT (s : List aa × aa × Unit) : Option (Bool × List aa × aa × Unit) :=
 match iM (s.1, s.2.1, ()) with
 | none => none
 | some r0 =>
  some ((decide (r0.1 >= 0)), r0.2.1, r0.2.2.1, ())
def mB (tree_scanner_below_r : (api_Node × aa × List aa × aj × Int × Unit) -> Option (List ae × aj × Int × Unit)) (s : Int × Int × Bool × Int × Int × aa × List aa × aj × Int × List ae × List ae × Unit) : Option ((Int × Int × Int × Int × aa × List aa × aj × Int × List ae × List ae × Unit) ⊕ ((Int × Int × aa × List aa × aj × Int × List ae × Unit) ⊕ (Int × Int × aa × List aa × aj × Int × List ae × Unit))) :=
 bif s.2.2.1 then
  some (.inr (.inl (s.2.2.2.1, s.2.2.2.2.1, s.2.2.2.2.2.1, s.2.2.2.2.2.2.1, s.2.2.2.2.2.2.2.1, s.2.2.2.2.2.2.2.2.1, s.2.2.2.2.2.2.2.2.2.2.1, ())))
 else
  some (.inl (s.1, (IntKind.i64.wrap (s.2.1 + 1)), s.2.2.2.1, s.2.2.2.2.1, s.2.2.2.2.2.1, s.2.2.2.2.2.2.1, s.2.2.2.2.2.2.2.1, s.2.2.2.2.2.2.2.2.1, s.2.2.2.2.2.2.2.2.2.1, s.2.2.2.2.2.2.2.2.2.2.1, ()))

def kz (tree_scanner_below_r : (api_Node × aa × List aa × aj × Int × Unit) -> Option (List ae × aj × Int × Unit)) (s : Int × Int × Int × Int × aa × List aa × aj × Int × List ae × List ae × Unit) : Option ((Int × Int × Int × Int × aa × List aa × aj × Int × List ae × List ae × Unit) ⊕ ((Int × Int × aa × List aa × aj × Int × List ae × Unit) ⊕ (Int × Int × aa × List aa × aj × Int × List ae × Unit))) :=
 bif decide (s.2.1 < s.1) then
  bif decide (0 <= s.2.1) && decide (s.2.1 < (List.length s.2.2.2.2.2.2.2.2.1 : Int)) then
   let t0 : ae := (List.getD s.2.2.2.2.2.2.2.2.1 (Int.toNat s.2.1) ([], ([], (0, ()))))
   let t1 : Bool := (!decide (s.2.2.2.2.2.2.2.1 = 0))
   bif !t1 then
    match iU (t0, s.2.2.1, s.2.2.2.2.2.2.2.2.2.1, ()) with
    | none => none
    | some r2 =>
     mB tree_scanner_below_r (s.1, s.2.1, (!r2.1), r2.2.1, s.2.2.2.1, s.2.2.2.2.1, s.2.2.2.2.2.1, s.2.2.2.2.2.2.1, s.2.2.2.2.2.2.2.1, s.2.2.2.2.2.2.2.2.1, r2.2.2.1, ())
   else
    mB tree_scanner_below_r (s.1, s.2.1, true, s.2.2.1, s.2.2.2.1, s.2.2.2.2.1, s.2.2.2.2.2.1, s.2.2.2.2.2.2.1, s.2.2.2.2.2.2.2.1, s.2.2.2.2.2.2.2.2.1, s.2.2.2.2.2.2.2.2.2.1, ())
  else none
 else
  some (.inr (.inr (s.2.2.1, s.2.2.2.1, s.2.2.2.2.1, s.2.2.2.2.2.1, s.2.2.2.2.2.2.1, s.2.2.2.2.2.2.2.1, s.2.2.2.2.2.2.2.2.2.1, ())))
def k9 (tree_scanner_below_r : (api_Node × aa × List aa × aj × Int × Unit) -> Option (List ae × aj × Int × Unit)) (s : Int × Int × Int × Int × aa × List aa × aj × Int × List ae × List ae × Unit) : Option ((Int × Int × aa × List aa × aj × Int × List ae × Unit) ⊕ (Int × Int × aa × List aa × aj × Int × List ae × Unit)) := aP (kz tree_scanner_below_r) s
def pP (tree_scanner_below_r : (api_Node × aa × List aa × aj × Int × Unit) -> Option (List ae × aj × Int × Unit)) (s : List ae × Int × Int × aa × List aa × aj × Int × List ae × Unit) : Option (Int × Int × aa × List aa × aj × Int × List ae × Unit) :=
 match aau (s.1, s.2.2.2.2.1, ()) with
 | none => none
 | some r0 =>
  match k9 tree_scanner_below_r (((List.length r0.1) : Int), 0, s.2.1, s.2.2.1, s.2.2.2.1, s.2.2.2.2.1, s.2.2.2.2.2.1, s.2.2.2.2.2.2.1, r0.1, s.2.2.2.2.2.2.2.1, ()) with
  | none => none
  | some (.inl z1) =>
   some (z1.1, z1.2.1, z1.2.2.1, z1.2.2.2.1, z1.2.2.2.2.1, z1.2.2.2.2.2.1, z1.2.2.2.2.2.2.1, ())
  | some (.inr z1) =>
   some (z1.1, z1.2.1, z1.2.2.1, z1.2.2.2.1, z1.2.2.2.2.1, z1.2.2.2.2.2.1, z1.2.2.2.2.2.2.1, ())

def lX (tree_scanner_below_r : (api_Node × aa × List aa × aj × Int × Unit) -> Option (List ae × aj × Int × Unit)) (s : Int × Int × aa × List aa × aj × Int × List ae × Unit) : Option (Int × Int × aa × List aa × aj × Int × List ae × Unit) :=
 match mS (s.2.2.2.2.1, s.2.1, ()) with
 | none => none
 | some r0 =>
  bif (!decide (r0.2.1 = 0)) then
   some (s.1, s.2.1, s.2.2.1, s.2.2.2.1, s.2.2.2.2.1, r0.2.1, s.2.2.2.2.2.2.1, ())
  else
   match tl (r0.1, ()) with
   | none => none
   | some r1 =>
    bif !r1.1 then
     match tree_scanner_below_r (r0.1, s.2.2.1, s.2.2.2.1, s.2.2.2.2.1, s.2.2.2.2.2.1, ()) with
     | none => none
     | some r2 =>
      match ayF (r2.1, r0.1.2.2.2.2.1, ()) with
      | none => none
      | some r3 =>
       pP tree_scanner_below_r (r3.1, s.1, s.2.1, s.2.2.1, s.2.2.2.1, r2.2.1, r2.2.2.1, s.2.2.2.2.2.2.1, ())
    else
     pP tree_scanner_below_r (r0.1.1, s.1, s.2.1, s.2.2.1, s.2.2.2.1, s.2.2.2.2.1, s.2.2.2.2.2.1, s.2.2.2.2.2.2.1, ())
def og (tree_scanner_below_r : (api_Node × aa × List aa × aj × Int × Unit) -> Option (List ae × aj × Int × Unit)) (s : List ae × List aa × Int × Int × aj × Int × api_Node × aa × List aa × Unit) : Option ((List ae × List aa × Int × Int × aj × Int × api_Node × aa × List aa × Unit) ⊕ ((List ae × aj × Int × api_Node × aa × List aa × Unit) ⊕ Unit)) :=
 bif decide (s.2.2.2.1 < s.2.2.1) then
  bif decide (0 <= s.2.2.2.1) && decide (s.2.2.2.1 < (List.length s.2.1 : Int)) then
   let t0 : aa := (List.getD s.2.1 (Int.toNat s.2.2.2.1) ([], ([], ())))
   match agX (t0, s.2.2.2.2.2.2.1.2.2.2.2.1, ()) with
   | none => none
   | some r1 =>
    bif decide ((List.length s.2.2.2.2.2.2.2.2.1 + List.length r1.1) * 32 <= aw) then
     let t2 : Int := IntKind.i64.wrap (s.2.2.2.1 + 1)
     some (.inl (s.1, s.2.1, s.2.2.1, t2, s.2.2.2.2.1, s.2.2.2.2.2.1, s.2.2.2.2.2.2.1, s.2.2.2.2.2.2.2.1, (s.2.2.2.2.2.2.2.2.1 ++ r1.1), ()))
    else none
  else none
 else
  some (.inr (.inl (s.1, s.2.2.2.2.1, s.2.2.2.2.2.1, s.2.2.2.2.2.2.1, s.2.2.2.2.2.2.2.1, s.2.2.2.2.2.2.2.2.1, ())))
def oj (tree_scanner_below_r : (api_Node × aa × List aa × aj × Int × Unit) -> Option (List ae × aj × Int × Unit)) (s : List ae × List aa × Int × Int × aj × Int × api_Node × aa × List aa × Unit) : Option ((List ae × aj × Int × api_Node × aa × List aa × Unit) ⊕ Unit) := aP (og tree_scanner_below_r) s
def oh (tree_scanner_below_r : (api_Node × aa × List aa × aj × Int × Unit) -> Option (List ae × aj × Int × Unit)) (s : List ae × Int × Int × aj × Int × api_Node × List aa × List aa × List ae × Unit) : Option ((List ae × Int × Int × aj × Int × api_Node × List aa × List aa × List ae × Unit) ⊕ ((List ae × aj × Int × Unit) ⊕ (aj × Int × List ae × Unit))) :=
 bif decide (s.2.2.1 < s.2.1) then
  bif decide (0 <= s.2.2.1) && decide (s.2.2.1 < (List.length s.2.2.2.2.2.2.2.1 : Int)) then
   let t0 : aa := (List.getD s.2.2.2.2.2.2.2.1 (Int.toNat s.2.2.1) ([], ([], ())))
   match fT (s.2.2.2.2.2.2.1, t0, ()) with
   | none => none
   | some r1 =>
    bif !r1.1 then
     some (.inl (s.1, s.2.1, (IntKind.i64.wrap (s.2.2.1 + 1)), s.2.2.2.1, s.2.2.2.2.1, s.2.2.2.2.2.1, r1.2.1, s.2.2.2.2.2.2.2.1, s.2.2.2.2.2.2.2.2.1, ()))
    else
     bif decide (0 <= s.2.2.1) && decide (s.2.2.1 < (List.length s.2.2.2.2.2.1.2.2.1 : Int)) then
      let t2 : Int := (List.getD s.2.2.2.2.2.1.2.2.1 (Int.toNat s.2.2.1) 0)
      match sG (t2, r1.2.2.1, r1.2.1, s.2.2.2.1, s.2.2.2.2.1, ()) with
      | none => none
      | some r3 =>
       match lX tree_scanner_below_r (0, r3.2.2.1, r3.2.2.2.1, r3.2.2.2.2.1, r3.1, r3.2.1, s.2.2.2.2.2.2.2.2.1, ()) with
       | none => none
       | some r4 =>
        bif decide (r4.1 = 0) then
         some (.inl (s.1, s.2.1, (IntKind.i64.wrap (s.2.2.1 + 1)), r4.2.2.2.2.1, r4.2.2.2.2.2.1, s.2.2.2.2.2.1, r1.2.1, s.2.2.2.2.2.2.2.1, r4.2.2.2.2.2.2.1, ()))
        else
         bif decide (r4.1 = 1) then
          some (.inr (.inl (s.1, r4.2.2.2.2.1, r4.2.2.2.2.2.1, ())))
         else none
     else none
  else none
 else
  some (.inr (.inr (s.2.2.2.1, s.2.2.2.2.1, s.2.2.2.2.2.2.2.2.1, ())))
def ol (tree_scanner_below_r : (api_Node × aa × List aa × aj × Int × Unit) -> Option (List ae × aj × Int × Unit)) (s : List ae × Int × Int × aj × Int × api_Node × List aa × List aa × List ae × Unit) : Option ((List ae × aj × Int × Unit) ⊕ (aj × Int × List ae × Unit)) := aP (oh tree_scanner_below_r) s
def lV (tree_scanner_below_r : (api_Node × aa × List aa × aj × Int × Unit) -> Option (List ae × aj × Int × Unit)) (s : api_Node × aa × List aa × aj × Int × Unit) : Option (List ae × aj × Int × Unit) :=
 match oj tree_scanner_below_r ([], s.2.2.1, ((List.length s.2.2.1) : Int), 0, s.2.2.2.1, s.2.2.2.2.1, s.1, s.2.1, [], ()) with
 | none => none
 | some (.inl z0) =>
  match akt (z0.2.2.2.1, z0.2.2.2.2.1, ()) with
  | none => none
  | some r1 =>
   match ol tree_scanner_below_r (z0.1, ((List.length r1.1) : Int), 0, z0.2.1, z0.2.2.1, z0.2.2.2.1, z0.2.2.2.2.2.1, r1.1, [], ()) with
   | none => none
   | some (.inl z2) =>
    some (z2.1, z2.2.1, z2.2.2.1, ())
   | some (.inr z2) =>
    some (z2.2.2.1, z2.1, z2.2.1, ())
 | some (.inr z0) =>
  none
def lU : Nat -> (api_Node × aa × List aa × aj × Int × Unit) -> Option (List ae × aj × Int × Unit)
 | 0, _ => none
 | n + 1, s => lV (lU n) s
def zw (s : api_Node × aa × List aa × aj × Int × Unit) : Option (List ae × aj × Int × Unit) := lU aqr s
def ri (s : ae × Int × List ae × Unit) : Option (Bool × Int × List ae × Unit) :=
 bif decide (s.2.1 = 0) then
  bif decide (s.2.1 = 0) then
   bif (decide ((List.length s.2.2.1 + List.length ([s.1] : List ae)) * 40 <= aw)) then
    let t0 : List ae := (s.2.2.1 ++ ([s.1] : List ae))
    some (true, 0, t0, ())
   else none
  else none
 else none
def pN (s : Int × Int × Bool × Int × Int × aa × List aa × aj × Int × List ae × List ae × Unit) : Option ((Int × Int × Int × Int × aa × List aa × aj × Int × List ae × List ae × Unit) ⊕ ((Int × Int × aa × List aa × aj × Int × List ae × Unit) ⊕ (Int × Int × aa × List aa × aj × Int × List ae × Unit))) :=
 bif s.2.2.1 then
  some (.inr (.inl (s.2.2.2.1, s.2.2.2.2.1, s.2.2.2.2.2.1, s.2.2.2.2.2.2.1, s.2.2.2.2.2.2.2.1, s.2.2.2.2.2.2.2.2.1, s.2.2.2.2.2.2.2.2.2.2.1, ())))
 else
  some (.inl (s.1, (IntKind.i64.wrap (s.2.1 + 1)), s.2.2.2.1, s.2.2.2.2.1, s.2.2.2.2.2.1, s.2.2.2.2.2.2.1, s.2.2.2.2.2.2.2.1, s.2.2.2.2.2.2.2.2.1, s.2.2.2.2.2.2.2.2.2.1, s.2.2.2.2.2.2.2.2.2.2.1, ()))

def tn (s : Int × Int × Int × Int × aa × List aa × aj × Int × List ae × List ae × Unit) : Option ((Int × Int × Int × Int × aa × List aa × aj × Int × List ae × List ae × Unit) ⊕ ((Int × Int × aa × List aa × aj × Int × List ae × Unit) ⊕ (Int × Int × aa × List aa × aj × Int × List ae × Unit))) :=
 bif decide (s.2.1 < s.1) then
  bif decide (0 <= s.2.1) && decide (s.2.1 < (List.length s.2.2.2.2.2.2.2.2.1 : Int)) then
   let t0 : ae := (List.getD s.2.2.2.2.2.2.2.2.1 (Int.toNat s.2.1) ([], ([], (0, ()))))
   let t1 : Bool := (!decide (s.2.2.2.2.2.2.2.1 = 0))
   bif !t1 then
    match ri (t0, s.2.2.1, s.2.2.2.2.2.2.2.2.2.1, ()) with
    | none => none
    | some r2 =>
     pN (s.1, s.2.1, (!r2.1), r2.2.1, s.2.2.2.1, s.2.2.2.2.1, s.2.2.2.2.2.1, s.2.2.2.2.2.2.1, s.2.2.2.2.2.2.2.1, s.2.2.2.2.2.2.2.2.1, r2.2.2.1, ())
   else
    pN (s.1, s.2.1, true, s.2.2.1, s.2.2.2.1, s.2.2.2.2.1, s.2.2.2.2.2.1, s.2.2.2.2.2.2.1, s.2.2.2.2.2.2.2.1, s.2.2.2.2.2.2.2.2.1, s.2.2.2.2.2.2.2.2.2.1, ())
  else none
 else
  some (.inr (.inr (s.2.2.1, s.2.2.2.1, s.2.2.2.2.1, s.2.2.2.2.2.1, s.2.2.2.2.2.2.1, s.2.2.2.2.2.2.2.1, s.2.2.2.2.2.2.2.2.2.1, ())))
def lW (s : Int × Int × Int × Int × aa × List aa × aj × Int × List ae × List ae × Unit) : Option ((Int × Int × aa × List aa × aj × Int × List ae × Unit) ⊕ (Int × Int × aa × List aa × aj × Int × List ae × Unit)) := aP tn s
def wK (s : Int × Int × aa × List aa × aj × Int × Unit) : Option (Int × Int × aa × List aa × aj × Int × List ae × Unit) :=
 match mS (s.2.2.2.2.1, s.2.1, ()) with
 | none => none
 | some r0 =>
  bif (!decide (r0.2.1 = 0)) then
   some (s.1, s.2.1, s.2.2.1, s.2.2.2.1, s.2.2.2.2.1, r0.2.1, [], ())
  else
   match tl (r0.1, ()) with
   | none => none
   | some r1 =>
    bif !r1.1 then
     match zw (r0.1, s.2.2.1, s.2.2.2.1, s.2.2.2.2.1, s.2.2.2.2.2.1, ()) with
     | none => none
     | some r2 =>
      match ayF (r2.1, r0.1.2.2.2.2.1, ()) with
      | none => none
      | some r3 =>
       match aau (r3.1, s.2.2.2.1, ()) with
       | none => none
       | some r4 =>
        match lW (((List.length r4.1) : Int), 0, s.1, s.2.1, s.2.2.1, s.2.2.2.1, r2.2.1, r2.2.2.1, r4.1, [], ()) with
        | none => none
        | some (.inl z5) =>
         some (z5.1, z5.2.1, z5.2.2.1, z5.2.2.2.1, z5.2.2.2.2.1, z5.2.2.2.2.2.1, z5.2.2.2.2.2.2.1, ())
        | some (.inr z5) =>
         some (z5.1, z5.2.1, z5.2.2.1, z5.2.2.2.1, z5.2.2.2.2.1, z5.2.2.2.2.2.1, z5.2.2.2.2.2.2.1, ())
    else
     match aau (r0.1.1, s.2.2.2.1, ()) with
     | none => none
     | some r2 =>
      match lW (((List.length r2.1) : Int), 0, s.1, s.2.1, s.2.2.1, s.2.2.2.1, s.2.2.2.2.1, s.2.2.2.2.2.1, r2.1, [], ()) with
      | none => none
      | some (.inl z3) =>
       some (z3.1, z3.2.1, z3.2.2.1, z3.2.2.2.1, z3.2.2.2.2.1, z3.2.2.2.2.2.1, z3.2.2.2.2.2.2.1, ())
      | some (.inr z3) =>
       some (z3.1, z3.2.1, z3.2.2.1, z3.2.2.2.1, z3.2.2.2.2.1, z3.2.2.2.2.2.1, z3.2.2.2.2.2.2.1, ())
def ahy (s : az × aa × Unit) : Option (Int × List ae × Unit) :=
 match sG (s.1.2.1, ([], ([], ())), ([s.2.1] : List aa), s.1.1, 0, ()) with
 | none => none
 | some r0 =>
  match wK (0, r0.2.2.1, r0.2.2.2.1, r0.2.2.2.2.1, r0.1, r0.2.1, ()) with
  | none => none
  | some r1 =>
   bif decide (r1.1 = 0) then
    let t2 : Bool := (!decide (r1.2.2.2.2.2.1 = 0))
    bif t2 then
     some (r1.2.2.2.2.2.1, [], ())
    else
     some (0, r1.2.2.2.2.2.2.1, ())
   else
    bif decide (r1.1 = 1) then
     some (0, [], ())
    else none
def xO (s : aZ) : Option (Bool × Unit) :=
 bif decide (s.2.1 <= s.1) then
  some ((decide (s.1 <= s.2.2.1)), ())
 else
  some (false, ())
def akC (s : aZ × Unit) : Option (Bool × Unit) :=
 match xO (s.1.1, 2, 64, ()) with
 | none => none
 | some r0 =>
  bif r0.1 then
   match xO (s.1.2.1, 2, 16, ()) with
   | none => none
   | some r1 =>
    bif r1.1 then
     match xO (s.1.2.2.1, 1, 64, ()) with
     | none => none
     | some r2 =>
      some (r2.1, ())
    else
     some (false, ())
  else
   some (false, ())
def atu (s : ak × Unit) : Option (Bool × Unit) :=
 some ((!s.1.1), ())
def iF (s : List ak × Int × Int × Unit) : Option ((List ak × Int × Int × Unit) ⊕ ((Int × Unit) ⊕ Unit)) :=
 bif decide (s.2.2.1 < s.2.1) then
  bif decide (0 <= s.2.2.1) && decide (s.2.2.1 < (List.length s.1 : Int)) then
   let t0 : ak := (List.getD s.1 (Int.toNat s.2.2.1) (false, (false, (0, (([], ([], ([], ([], ([], ()))))), ())))))
   match atu (t0, ()) with
   | none => none
   | some r1 =>
    bif r1.1 then
     some (.inr (.inl (s.2.2.1, ())))
    else
     some (.inl (s.1, s.2.1, (IntKind.i64.wrap (s.2.2.1 + 1)), ()))
  else none
 else
  some (.inr (.inr (())))
def iH (s : List ak × Int × Int × Unit) : Option ((Int × Unit) ⊕ Unit) := aP iF s
def kl (s : aj) : Option (Int × Unit) :=
 match iH (s.1, ((List.length s.1) : Int), 0, ()) with
 | none => none
 | some (.inl z0) =>
  some (z0.1, ())
 | some (.inr z0) =>
  some ((-1 : Int), ())
def akx (s : aj × Unit) : Option aj :=
 bif (decide (0 <= ((List.length s.1.1) : Int)) && decide ((((List.length s.1.1) : Int) : Int) <= ((List.length s.1.1) : Int)) && decide (((List.length s.1.1) : Int) * 136 <= (aw : Int))) then
  let t0 : List ak := (List.take (List.length (List.replicate (Int.toNat ((List.length s.1.1) : Int)) (false, (false, ((0 : Int), ((([] : List ae), (([] : List (List UInt8)), (([] : List Int), (([] : List api_Sum), (([] : List ai), ()))))), ())))))) s.1.1)
  let t1 : List ak := (List.take 0 (List.replicate (Int.toNat ((List.length s.1.1) : Int)) (false, (false, ((0 : Int), ((([] : List ae), (([] : List (List UInt8)), (([] : List Int), (([] : List api_Sum), (([] : List ai), ()))))), ()))))) ++ t0 ++ List.drop (0 + List.length t0) (List.replicate (Int.toNat ((List.length s.1.1) : Int)) (false, (false, ((0 : Int), ((([] : List ae), (([] : List (List UInt8)), (([] : List Int), (([] : List api_Sum), (([] : List ai), ()))))), ()))))))
  some (t1, ())
 else none
def aoT (s : List Int × Int × Int × aj × api_Node × List ak × Unit) : Option ((List Int × Int × Int × aj × api_Node × List ak × Unit) ⊕ ((Int × Int × aj × Unit) ⊕ (aj × api_Node × List ak × Unit))) :=
 bif decide (s.2.2.1 < s.2.1) then
  bif decide (0 <= s.2.2.1) && decide (s.2.2.1 < (List.length s.1 : Int)) then
   let t0 : Int := (List.getD s.1 (Int.toNat s.2.2.1) 0)
   match xS (s.2.2.2.1, t0, ()) with
   | none => none
   | some r1 =>
    bif !r1.1 then
     some (.inr (.inl (0, 110, s.2.2.2.1, ())))
    else
     some (.inl (s.1, s.2.1, (IntKind.i64.wrap (s.2.2.1 + 1)), s.2.2.2.1, s.2.2.2.2.1, s.2.2.2.2.2.1, ()))
  else none
 else
  some (.inr (.inr (s.2.2.2.1, s.2.2.2.2.1, s.2.2.2.2.2.1, ())))
end D
