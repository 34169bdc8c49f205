/- Plain functions, by program. -/
import Derived.Test.YtmmmpanpbphkdaaGreatDoorXD
set_option linter.unusedVariables false
open Go Go.X
namespace D
abbrev bF : Type := Int × Int × Unit
abbrev aq : Type := List UInt8 × Int × Unit
abbrev aT : Type := Int × Int × Int × Unit
abbrev hK : Type := bF × Unit
abbrev ac : Type := List UInt8 × List UInt8 × Unit
abbrev aa : Type := List UInt8 × List UInt8 × Int × Unit
abbrev bN : Type := List UInt8 × Int × Int × List UInt8 × Unit
abbrev api_Sum : Type := bF × bF × Unit
abbrev amd : Type := aa × Bool × Int × Int × Unit
abbrev lj : Type := Bool × Bool × aa × List UInt8 × Bool × Int × Unit
abbrev ae : Type := Int × List UInt8 × List UInt8 × ac × List UInt8 × List UInt8 × Int × Unit
abbrev api_Node : Type := List aa × (List (List UInt8)) × List Int × List api_Sum × List ae × Unit
abbrev a9 : Type := List aT × ((List (Int × Int × Int × Int × Int × Int × Unit)) × (List (Int × Int × Int × Int × Int × Int × Unit)) × (List (Int × Int × Int × Int × Int × Int × Unit)) × (List (Int × Int × Int × Int × Int × Int × Unit)) × Unit) × Int × Unit
abbrev aj : Type := Bool × Bool × Int × api_Node × Unit
abbrev au : Type := List aj × Unit
abbrev aH : Type := au × Int × Unit
abbrev co : Type := au × Int × Int × Unit
abbrev am : Type := au × Int × aT × Unit
@[reducible] def bh : Ty := (.pair (.int .i64) (.pair (.int .i64) .unit))
@[reducible] def vl : Ty := (.pair (.int .i64) bh)
@[reducible] def ri : Ty := (.pair bh .unit)
@[reducible] def af : Ty := (.pair .str (.pair .str .unit))
@[reducible] def ag : Ty := (.pair .str (.pair .str (.pair (.int .i64) .unit)))
@[reducible] def bg : Ty := (.pair .str (.pair (.int .i64) (.pair (.int .i64) (.pair .str .unit))))
@[reducible] def aQ : Ty := (.pair bh ri)
@[reducible] def agU : Ty := (.pair .str (.pair .bool (.pair .bool (.pair .str (.pair .bool (.pair (.int .i64) .unit))))))
@[reducible] def akK : Ty := (.pair ag (.pair .bool bh))
@[reducible] def ajE : Ty := (.pair (.pair .str .unit) (.pair bg .unit))
@[reducible] def aw : Ty := (.pair .bool (.pair .bool (.pair ag (.pair .str (.pair .bool (.pair (.int .i64) .unit))))))
@[reducible] def ah : Ty := (.pair (.int .i64) (.pair .str (.pair .str (.pair af ag))))
@[reducible] def az : Ty := (.pair (.list ag) (.pair (.list .str) (.pair (.list (.int .i64)) (.pair (.list aQ) (.pair (.list ah) .unit)))))
@[reducible] def cD : Ty := (.pair (.list (.pair (.int .u8) (.pair (.int .u8) (.pair (.int .u8) .unit)))) (.pair (.pair (.list (.pair (.int .u8) (.pair (.int .u8) (.pair (.int .u8) (.pair (.int .u8) (.pair (.int .u8) (.pair (.int .u8) .unit))))))) (.pair (.list (.pair (.int .u8) (.pair (.int .u8) (.pair (.int .u8) (.pair (.int .u8) (.pair (.int .u8) (.pair (.int .u8) .unit))))))) (.pair (.list (.pair (.int .u8) (.pair (.int .u8) (.pair (.int .u8) (.pair (.int .u8) (.pair (.int .u8) (.pair (.int .u8) .unit))))))) (.pair (.list (.pair (.int .u8) (.pair (.int .u8) (.pair (.int .u8) (.pair (.int .u8) (.pair (.int .u8) (.pair (.int .u8) .unit))))))) .unit)))) (.pair (.int .u8) .unit)))
@[reducible] def aB : Ty := (.pair .bool (.pair .bool (.pair (.int .i64) (.pair az .unit))))
@[reducible] def ak : Ty := (.pair (.list aB) .unit)
@[reducible] def bW : Ty := (.pair ak (.pair (.int .i64) .unit))
@[reducible] def aN : Ty := (.pair ak bh)
@[reducible] def aD : Ty := (.pair ak (.pair (.int .i64) (.pair vl .unit)))
abbrev Q6 : Type := List UInt8 × List UInt8 × List UInt8 × (Int × Int × Int × Int × Int × Int × Unit) × Int × List UInt8 × List UInt8 × List UInt8 × List UInt8 × List UInt8 × List UInt8 × Int × ac × Unit
abbrev Q7 : Type := Int × Int × List ae × Bool × Bool × List UInt8 × List UInt8 × Int × List UInt8 × Bool × Int × Bool × Bool × List UInt8 × List UInt8 × Int × List UInt8 × Bool × Int × Unit
abbrev Q8 : Type := Int × List ae × Bool × Bool × List UInt8 × List UInt8 × Int × List UInt8 × Bool × Int × Bool × Bool × List UInt8 × List UInt8 × Int × List UInt8 × Bool × Int × Unit
abbrev Q9 : Type := Bool × Int × Bool × Bool × List UInt8 × List UInt8 × Int × List UInt8 × Bool × Int × Bool × Bool × List UInt8 × List UInt8 × Int × List UInt8 × Bool × Int × Unit
abbrev Ra : Type := List aa × (List (List (List UInt8))) × Int × au × ac × a9 × List aj × Int × List aa × List ae × List ac × (List (List UInt8)) × List Int × List api_Sum × Unit
abbrev Rb : Type := List aa × Int × List aj × Int × Int × Int × Int × List aa × (List (List UInt8)) × List ae × List ac × au × List Int × List api_Sum × Unit
abbrev Rc : Type := Int × List aj × Int × Int × Int × Int × List aa × (List (List UInt8)) × List ae × au × co × List Int × List api_Sum × Unit
abbrev Rd : Type := Int × List aj × Int × List aa × co × au × (List (List UInt8)) × List Int × List api_Sum × List ae × Unit
abbrev Re : Type := List aa × (List (List (List UInt8))) × Int × au × ac × a9 × List aj × Int × (List (List UInt8)) × Unit
abbrev Rf : Type := List aa × (List (List (List UInt8))) × au × ac × a9 × List aj × Int × (List (List UInt8)) × Unit
abbrev Rg : Type := List UInt8 × Int × List lj × am × List UInt8 × List UInt8 × Int × Bool × Int × Unit
abbrev Rh : Type := ae × Bool × Bool × List UInt8 × List UInt8 × Int × List UInt8 × Bool × Int × Unit
abbrev Ri : Type := (List (Int × Int × Int × Int × Int × Int × Unit)) × Int × Int × List ae × Unit
abbrev Rj : Type := Int × Int × am × ae × List Int × List ac × api_Node × List ac × Unit
abbrev Rk : Type := Int × Bool × List UInt8 × List UInt8 × Int × Int × List UInt8 × Unit
abbrev Rl : Type := List UInt8 × (List (List UInt8)) × Int × Int × ac × List ac × Unit
abbrev Rm : Type := List UInt8 × Int × List UInt8 × Int × Int × List UInt8 × Unit
abbrev Rn : Type := (List (List UInt8)) × List UInt8 × Int × ac × List ac × Unit
abbrev Ro : Type := (List (List ae)) × Int × (List (List ae)) × Int × Int × Unit
abbrev Rp : Type := (List (List UInt8)) × (List (List UInt8)) × Int × Int × Unit
abbrev Rq : Type := (List (List aa)) × Int × (List (List aa)) × Int × Int × Unit
abbrev Rr : Type := Int × Int × api_Node × List aj × Int × Int × List aj × Unit
abbrev Rs : Type := List UInt8 × List UInt8 × Int × (List (List UInt8)) × Unit
abbrev Rt : Type := Int × Int × am × Int × api_Node × List ae × List ac × Unit
abbrev Ru : Type := au × List aa × ac × (List (List (List UInt8))) × a9 × Unit
abbrev Rv : Type := (List (List UInt8)) × List UInt8 × Int × Int × Int × Unit
abbrev Rw : Type := Int × api_Node × Int × Int × Int × Int × api_Sum × Unit
abbrev Rx : Type := List UInt8 × List UInt8 × Int × Int × List UInt8 × Unit
abbrev Ry : Type := List UInt8 × List UInt8 × List UInt8 × List Int × Unit
abbrev Rz : Type := Bool × bN × List UInt8 × Int × Int × List UInt8 × Unit
abbrev RA : Type := List Int × Int × Int × au × api_Node × List aj × Unit
abbrev RB : Type := Int × List Int × Int × Int × List aj × List aj × Unit
abbrev RD : Type := List UInt8 × List UInt8 × Int × Int × List aa × Unit
abbrev RE : Type := List aa × Bool × Int × Bool × aa × List aa × Unit
abbrev RF : Type := List UInt8 × Int × List UInt8 × List UInt8 × Unit
abbrev RG : Type := Int × au × api_Node × List aj × Int × Int × Unit
abbrev RH : Type := List aa × Bool × Int × aa × List aa × Unit
abbrev RI : Type := Int × Int × ac × List ae × List ae × Unit
abbrev RJ : Type := Int × am × ae × List Int × List ac × Unit
abbrev RK : Type := List aa × List ac × Int × List aa × Unit
abbrev RL : Type := Int × List lj × aa × Bool × Int × Unit
abbrev RM : Type := List UInt8 × List UInt8 × Bool × Unit
abbrev RN : Type := Int × List aj × Int × Int × au × Unit
abbrev RO : Type := Int × ac × List ae × am × Int × Unit
abbrev RP : Type := List aa × List aa × List aa × Unit
abbrev RR : Type := Int × Int × List ae × ac × Unit
abbrev RS : Type := List aT × Int × List aa × Unit
abbrev RT : Type := List ac × List ac × Int × Unit
abbrev RU : Type := List UInt8 × Int × Bool × Unit
abbrev RW : Type := List UInt8 × Int × Int × Unit
abbrev RX : Type := List aa × List UInt8 × Unit
abbrev RY : Type := List UInt8 × Bool × Unit
abbrev RZ : Type := List aa × ac × Unit
abbrev R0 : Type := ae × List aa × Unit
abbrev R4 : Type := Int × Bool × Unit
def kT (s : ac) : Option (Bool × Unit) :=
 let t0 := (!decide ((s.1 : List UInt8) = []))
 bif t0 then
  let t1 := decide ((s.2.1 : List UInt8) = [])
  bif !t1 then
   some ((Op.bytesLess s.1 s.2.1), ())
  else
   some (true, ())
 else
  some (false, ())
def gC (s : ac × Unit) : Option (Bool × Unit) :=
 let t0 := (!decide ((s.1.2.1 : List UInt8) = []))
 bif t0 then
  let t1 := (Op.bytesLess s.1.2.1 s.1.1 || decide ((s.1.2.1 : List UInt8) = s.1.1))
  some (t1, ())
 else
  some (false, ())
def uP (s : Unit) : Option (ac × Unit) :=
 some ((([97] : List UInt8), (([97] : List UInt8), ())), ())
def iP (s : List UInt8 × List UInt8 × List UInt8 × List UInt8 × Unit) : Option (ac × Unit) :=
 match gC ((s.2.2.1, (s.2.2.2.1, ())), ()) with
 | none => none
 | some r0 =>
  bif r0.1 then
   match uP (()) with
   | none => none
   | some r1 =>
    some (r1.1, ())
  else
   some ((s.2.2.1, (s.2.2.2.1, ())), ())

def jr (s : ac × ac × Unit) : Option (ac × Unit) :=
 let t0 : List UInt8 := (bif !(Op.bytesLess s.1.1 s.2.1.1) then s.1.1 else s.2.1.1)
 match kT (s.2.1.2.1, s.1.2.1, ()) with
 | none => none
 | some r1 =>
  bif r1.1 then
   iP ([], [], t0, s.2.1.2.1, ())
  else
   iP ([], [], t0, s.1.2.1, ())
def js (s : Rn) : Option (Rn ⊕ ((List UInt8 × ac × List ac × Unit) ⊕ Unit)) :=
 let t0 := (decide (s.2.2.1 < ((List.length s.1) : Int)))
 bif t0 then
  bif decide (0 <= s.2.2.1) && decide (s.2.2.1 < (List.length s.1 : Int)) then
   let t1 := (List.getD s.1 (Int.toNat s.2.2.1) [])
   match jr (s.2.2.2.1, (s.2.1, (t1, ())), ()) with
   | none => none
   | some r2 =>
    bif (decide ((List.length s.2.2.2.2.1 + List.length ([r2.1] : List ac)) * 32 <= ai)) then
     let t3 : List ac := (s.2.2.2.2.1 ++ ([r2.1] : List ac))
     bif decide (0 <= s.2.2.1) && decide (s.2.2.1 < (List.length s.1 : Int)) then
      let t4 := (List.getD s.1 (Int.toNat s.2.2.1) [])
      some (.inl (s.1, t4, (IntKind.i64.wrap (s.2.2.1 + 1)), s.2.2.2.1, t3, ()))
     else none
    else none
  else none
 else
  some (.inr (.inl (s.2.1, s.2.2.2.1, s.2.2.2.2.1, ())))
def qP := aR js
def l7 (s : ac × (List (List UInt8)) × Unit) : Option (List ac × Unit) :=
 match qP (s.2.1, [], 0, s.1, [], ()) with
 | none => none
 | some (.inl z0) =>
  match jr (z0.2.1, (z0.1, ([], ())), ()) with
  | none => none
  | some r1 =>
   bif (decide ((List.length z0.2.2.1 + List.length ([r1.1] : List ac)) * 32 <= ai)) then
    let t2 : List ac := (z0.2.2.1 ++ ([r1.1] : List ac))
    some (t2, ())
   else none
 | some (.inr z0) =>
  none
def gD (s : api_Node × ac × Unit) : Option (List ac × Unit) :=
 let t0 := (decide ((((List.length s.1.2.2.1) : Int) : Int) = 0))
 bif t0 then
  some ([], ())
 else
  match l7 (s.2.1, s.1.2.1, ()) with
  | none => none
  | some r1 =>
   some (r1.1, ())
def tN (s : ac × List UInt8 × Unit) : Option (Bool × Unit) :=
 bif (!(Op.bytesLess s.2.1 s.1.1)) then
  let t0 := decide ((s.1.2.1 : List UInt8) = [])
  bif !t0 then
   some ((Op.bytesLess s.2.1 s.1.2.1), ())
  else
   some (true, ())
 else
  some (false, ())
def ju (s : List aa × Int × ac × List aa × Unit) : Option ((List aa × Int × ac × List aa × Unit) ⊕ ((List aa × Unit) ⊕ Unit)) :=
 let t0 := (decide (s.2.1 < ((List.length s.1) : Int)))
 bif t0 then
  bif decide (0 <= s.2.1) && decide (s.2.1 < (List.length s.1 : Int)) then
   let t1 := (List.getD s.1 (Int.toNat s.2.1) ([], ([], (0, ()))))
   match tN (s.2.2.1, t1.1, ()) with
   | none => none
   | some r2 =>
    bif r2.1 then
     bif decide (0 <= s.2.1) && decide (s.2.1 < (List.length s.1 : Int)) then
      let t3 := (List.getD s.1 (Int.toNat s.2.1) ([], ([], (0, ()))))
      bif (decide ((List.length s.2.2.2.1 + List.length ([t3] : List aa)) * 40 <= ai)) then
       let t4 : List aa := (s.2.2.2.1 ++ ([t3] : List aa))
       some (.inl (s.1, (IntKind.i64.wrap (s.2.1 + 1)), s.2.2.1, t4, ()))
      else none
     else none
    else
     some (.inl (s.1, (IntKind.i64.wrap (s.2.1 + 1)), s.2.2.1, s.2.2.2.1, ()))
  else none
 else
  some (.inr (.inl (s.2.2.2.1, ())))
def qS := aR ju
def oc (s : RZ) : Option (List aa × Unit) :=
 match qS (s.1, 0, s.2.1, [], ()) with
 | none => none
 | some (.inl z0) =>
  some (z0.1, ())
 | some (.inr z0) =>
  none
def nl (s : aH) : Option (Bool × Unit) :=
 bif decide (s.2.1 >= 0) then
  let t0 := (decide (s.2.1 < ((List.length s.1.1) : Int)))
  bif t0 then
   bif decide (0 <= s.2.1) && decide (s.2.1 < (List.length s.1.1 : Int)) then
    let t1 := (List.getD s.1.1 (Int.toNat s.2.1) (false, (false, (0, (([], ([], ([], ([], ([], ()))))), ())))))
    some (t1.1, ())
   else none
  else
   some (false, ())
 else
  some (false, ())
def mz (s : au × Unit) : Option au :=
 bif (decide ((List.length ([] : List aj) + List.length s.1.1) * 136 <= ai)) then
  let t0 : List aj := ([] ++ s.1.1)
  some (t0, ())
 else none
def mt (s : RG) : Option (RG ⊕ (co ⊕ (au × api_Node × List aj × Int × Int × Unit))) :=
 let t0 := (decide (s.1 < ((List.length s.2.2.1.2.2.1) : Int)))
 bif t0 then
  bif decide (0 <= s.1) && decide (s.1 < (List.length s.2.2.1.2.2.1 : Int)) then
   let t1 := (List.getD s.2.2.1.2.2.1 (Int.toNat s.1) 0)
   match nl (s.2.1, t1, ()) with
   | none => none
   | some r2 =>
    bif !r2.1 then
     some (.inr (.inl (s.2.1, 0, 110, ())))
    else
     some (.inl ((IntKind.i64.wrap (s.1 + 1)), s.2.1, s.2.2.1, s.2.2.2.1, s.2.2.2.2.1, s.2.2.2.2.2.1, ()))
  else none
 else
  some (.inr (.inr (s.2.1, s.2.2.1, s.2.2.2.1, s.2.2.2.2.1, s.2.2.2.2.2.1, ())))
def uX := aR mt
def mu (s : RG) : Option (RG ⊕ (RG ⊕ Unit)) :=
 let t0 := (decide (s.1 < ((List.length s.2.1.1) : Int)))
 bif t0 then
  bif decide (0 <= s.1) && decide (s.1 < (List.length s.2.1.1 : Int)) then
   let t1 := (List.getD s.2.1.1 (Int.toNat s.1) (false, (false, (0, (([], ([], ([], ([], ([], ()))))), ())))))
   bif t1.1 then
    some (.inl ((IntKind.i64.wrap (s.1 + 1)), s.2.1, s.2.2.1, s.2.2.2.1, s.2.2.2.2.1, s.2.2.2.2.2.1, ()))
   else
    some (.inr (.inl (s.1, s.2.1, s.2.2.1, s.2.2.2.1, s.2.2.2.2.1, s.2.2.2.2.2.1, ())))
  else none
 else
  some (.inr (.inl (s.1, s.2.1, s.2.2.1, s.2.2.2.1, s.2.2.2.2.1, s.2.2.2.2.2.1, ())))
def uY := aR mu
def mw (s : Rr) : Option (Rr ⊕ ((Int × List aj × Int × Int × List aj × Unit) ⊕ Unit)) :=
 let t0 := (decide (s.2.1 < ((List.length s.2.2.1.2.2.1) : Int)))
 bif t0 then
  bif decide (0 <= s.2.1) && decide (s.2.1 < (List.length s.2.2.1.2.2.1 : Int)) then
   let t1 := (List.getD s.2.2.1.2.2.1 (Int.toNat s.2.1) 0)
   bif decide (0 <= t1) && decide (t1 < (List.length s.2.2.2.2.2.2.1 : Int)) then
    let t2 := (List.getD s.2.2.2.2.2.2.1 (Int.toNat t1) (false, (false, (0, (([], ([], ([], ([], ([], ()))))), ())))))
    let t3 := IntKind.i64.wrap (t2.2.2.1 + 1)
    bif decide (0 <= t1) && decide (t1 < (List.length s.2.2.2.2.2.2.1 : Int)) then
     let t4 := (List.set s.2.2.2.2.2.2.1 (Int.toNat t1) ((List.getD s.2.2.2.2.2.2.1 (Int.toNat t1) (false, (false, (0, (([], ([], ([], ([], ([], ()))))), ()))))).1, ((List.getD s.2.2.2.2.2.2.1 (Int.toNat t1) (false, (false, (0, (([], ([], ([], ([], ([], ()))))), ()))))).2.1, (t3, (List.getD s.2.2.2.2.2.2.1 (Int.toNat t1) (false, (false, (0, (([], ([], ([], ([], ([], ()))))), ()))))).2.2.2))))
     some (.inl (s.1, (IntKind.i64.wrap (s.2.1 + 1)), s.2.2.1, s.2.2.2.1, s.2.2.2.2.1, s.2.2.2.2.2.1, t4, ()))
    else none
   else none
  else none
 else
  some (.inr (.inl (s.1, s.2.2.2.1, s.2.2.2.2.1, s.2.2.2.2.2.1, s.2.2.2.2.2.2.1, ())))
def uZ := aR mw
def uW (s : Int × api_Node × List aj × Int × Int × List aj × Unit) : Option (co × Unit) :=
 bif decide (0 <= s.1) && decide (s.1 < (List.length s.2.2.2.2.2.1 : Int)) then
  let t0 := (List.set s.2.2.2.2.2.1 (Int.toNat s.1) (true, (false, (1, (s.2.1, ())))))
  match uZ (s.1, 0, s.2.1, s.2.2.1, s.2.2.2.1, s.2.2.2.2.1, t0, ()) with
  | none => none
  | some (.inl z1) =>
   some (((z1.2.2.2.2.1, ()), (z1.1, (0, ()))), ())
  | some (.inr z1) =>
   none
 else none

def nk (s : au × api_Node × Unit) : Option (co × Unit) :=
 match uX (0, s.1, s.2.1, [], 0, 0, ()) with
 | none => none
 | some (.inl z0) =>
  some ((z0.1, (z0.2.1, (z0.2.2.1, ()))), ())
 | some (.inr z0) =>
  match uY (0, z0.1, z0.2.1, z0.2.2.1, z0.2.2.2.1, z0.2.2.2.2.1, ()) with
  | none => none
  | some (.inl z1) =>
   bif decide (z1.1 >= 4096) then
    some ((z1.2.1, (0, (111, ()))), ())
   else
    match mz (z1.2.1, ()) with
    | none => none
    | some r2 =>
     let t3 := (decide (z1.1 = ((List.length r2.1) : Int)))
     bif t3 then
      bif (decide ((List.length r2.1 + List.length ([(false, (false, (0, (([], ([], ([], ([], ([], ()))))), ()))))] : List aj)) * 136 <= ai)) then
       let t4 : List aj := (r2.1 ++ ([(false, (false, (0, (([], ([], ([], ([], ([], ()))))), ()))))] : List aj))
       uW (z1.1, z1.2.2.1, z1.2.2.2.1, z1.2.2.2.2.1, z1.2.2.2.2.2.1, t4, ())
      else none
     else
      uW (z1.1, z1.2.2.1, z1.2.2.2.1, z1.2.2.2.2.1, z1.2.2.2.2.2.1, r2.1, ())
  | some (.inr z1) =>
   none
def aay (s : api_Sum × api_Sum × Unit) : Option (api_Sum × Unit) :=
 let t0 : Int := (if ((IntKind.i64.wrap (s.1.1.1 + s.2.1.1.1)) : Int) < 1000000000000000 then (IntKind.i64.wrap (s.1.1.1 + s.2.1.1.1)) else 1000000000000000)
 let t1 := IntKind.i64.wrap (s.1.1.2.1 + s.2.1.1.2.1)
 let t2 : Int := (if (t1 : Int) < 1000000000000000 then t1 else 1000000000000000)
 let t3 := IntKind.i64.wrap (s.1.2.1.1 + s.2.1.2.1.1)
 let t4 : Int := (if (t3 : Int) < 1000000000000000 then t3 else 1000000000000000)
 let t5 := IntKind.i64.wrap (s.1.2.1.2.1 + s.2.1.2.1.2.1)
 let t6 : Int := (if (t5 : Int) < 1000000000000000 then t5 else 1000000000000000)
 some (((t0, (t2, ())), ((t4, (t6, ())), ())), ())
def qN (s : List UInt8 × Int × Bool × List UInt8 × Int × Int × List UInt8 × List UInt8 × Int × Int × List UInt8 × Unit) : Option (bN × Unit) :=
 bif s.2.2.1 then
  bif decide ((1 : Int) <= s.2.1) && decide (s.2.1 <= (List.length s.1 : Int)) then
   let t0 := (List.drop (Int.toNat 1) (List.take (Int.toNat s.2.1) s.1))
   some ((t0, (4, (s.2.2.2.2.2.2.2.2.2.1, (s.2.2.2.2.2.2.2.2.2.2.1, ())))), ())
  else none
 else
  some ((s.2.2.2.2.2.2.2.1, (s.2.2.2.2.2.2.2.2.1, (s.2.2.2.2.2.2.2.2.2.1, (s.2.2.2.2.2.2.2.2.2.2.1, ())))), ())
def xx (s : List UInt8 × Int × List UInt8 × Int × Int × List UInt8 × List UInt8 × Int × Int × List UInt8 × Unit) : Option (bN × Unit) :=
 let t0 := decide (s.2.2.2.2.2.2.2.1 = 1)
 bif t0 then
  bif decide (s.2.1 > 0) then
   bif decide ((0 : Int) < (List.length s.1 : Int)) then
    let t1 := (decide ((((List.getD s.1 0 0).toNat : Int) : Int) = 6))
    qN (s.1, s.2.1, t1, s.2.2.1, s.2.2.2.1, s.2.2.2.2.1, s.2.2.2.2.2.1, s.2.2.2.2.2.2.1, s.2.2.2.2.2.2.2.1, s.2.2.2.2.2.2.2.2.1, s.2.2.2.2.2.2.2.2.2.1, ())
   else none
  else
   qN (s.1, s.2.1, false, s.2.2.1, s.2.2.2.1, s.2.2.2.2.1, s.2.2.2.2.2.1, s.2.2.2.2.2.2.1, s.2.2.2.2.2.2.2.1, s.2.2.2.2.2.2.2.2.1, s.2.2.2.2.2.2.2.2.2.1, ())
 else
  qN (s.1, s.2.1, false, s.2.2.1, s.2.2.2.1, s.2.2.2.2.1, s.2.2.2.2.2.1, s.2.2.2.2.2.2.1, s.2.2.2.2.2.2.2.1, s.2.2.2.2.2.2.2.2.1, s.2.2.2.2.2.2.2.2.2.1, ())
def xw (s : List UInt8 × Int × List UInt8 × List UInt8 × Int × Int × List UInt8 × List UInt8 × Int × Int × List UInt8 × Unit) : Option (bN × Unit) :=
 let t0 := decide (s.2.2.2.2.2.2.2.2.1 = 3)
 bif t0 then
  xx (s.1, s.2.1, s.2.2.2.1, s.2.2.2.2.1, s.2.2.2.2.2.1, s.2.2.2.2.2.2.1, s.2.2.2.2.2.2.2.1, s.2.2.2.2.2.2.2.2.1, s.2.2.2.2.2.2.2.2.2.1, s.2.2.1, ())
 else
  xx (s.1, s.2.1, s.2.2.2.1, s.2.2.2.2.1, s.2.2.2.2.2.1, s.2.2.2.2.2.2.1, s.2.2.2.2.2.2.2.1, s.2.2.2.2.2.2.2.2.1, s.2.2.2.2.2.2.2.2.2.1, s.2.2.2.2.2.2.2.2.2.2.1, ())
def xy (s : List UInt8 × Int × List UInt8 × Bool × List UInt8 × Int × Int × List UInt8 × List UInt8 × Int × Int × List UInt8 × Unit) : Option (bN × Unit) :=
 bif s.2.2.2.1 then
  bif decide ((0 : Int) < (List.length s.2.2.1 : Int)) then
   let t0 := IntKind.i64.wrap ((List.getD s.2.2.1 0 0).toNat : Int)
   bif decide ((1 : Int) < (List.length s.2.2.1 : Int)) then
    let t1 : Int := ((List.getD s.2.2.1 (Int.toNat 1) 0).toNat : Int)
    let t2 := (IntKind.i64.wrap ((IntKind.i64.wrap (256 * t0)) + (IntKind.i64.wrap t1)))
    xw (s.1, s.2.1, s.2.2.1, s.2.2.2.2.1, s.2.2.2.2.2.1, s.2.2.2.2.2.2.1, s.2.2.2.2.2.2.2.1, s.2.2.2.2.2.2.2.2.1, s.2.2.2.2.2.2.2.2.2.1, t2, s.2.2.2.2.2.2.2.2.2.2.2.1, ())
   else none
  else none
 else
  xw (s.1, s.2.1, s.2.2.1, s.2.2.2.2.1, s.2.2.2.2.2.1, s.2.2.2.2.2.2.1, s.2.2.2.2.2.2.2.1, s.2.2.2.2.2.2.2.2.1, s.2.2.2.2.2.2.2.2.2.1, s.2.2.2.2.2.2.2.2.2.2.1, s.2.2.2.2.2.2.2.2.2.2.2.1, ())

def adi (s : aq) : Option (bN × Unit) :=
 bif decide ((0 : Int) <= s.2.1) && decide (s.2.1 <= (List.length s.1 : Int)) then
  let t0 := (List.drop 0 (List.take (Int.toNat s.2.1) s.1))
  bif decide (0 <= s.2.1) && decide (s.2.1 < (List.length s.1 : Int)) then
   let t1 : Int := ((List.getD s.1 (Int.toNat s.2.1) 0).toNat : Int)
   bif (decide (0 <= (IntKind.i64.wrap (s.2.1 + 1))) && decide (((IntKind.i64.wrap (s.2.1 + 1)) : Int) <= (List.length s.1 : Int)) && decide (((List.length s.1 : Int) : Int) <= (List.length s.1 : Int))) then
    let t2 := (List.drop (Int.toNat (IntKind.i64.wrap (s.2.1 + 1))) (List.take (Int.toNat (List.length s.1 : Int)) s.1))
    let t3 := (decide (((IntKind.i64.wrap t1) : Int) = 2))
    bif t3 then
     let t4 := (decide ((((List.length t2) : Int) : Int) = 2))
     xy (s.1, s.2.1, t2, t4, [], 0, 0, [], t0, (IntKind.i64.wrap t1), 0, [], ())
    else
     xy (s.1, s.2.1, t2, false, [], 0, 0, [], t0, (IntKind.i64.wrap t1), 0, [], ())
   else none
  else none
 else none
def xj (s : Rs) : Option (Rs ⊕ ((List UInt8 × (List (List UInt8)) × Unit) ⊕ Unit)) :=
 let t0 := (decide (s.2.2.1 < ((List.length s.1) : Int)))
 bif t0 then
  bif decide (0 <= s.2.2.1) && decide (s.2.2.1 < (List.length s.1 : Int)) then
   let t1 : Int := ((List.getD s.1 (Int.toNat s.2.2.1) 0).toNat : Int)
   bif decide (t1 = 47) then
    bif (decide ((List.length s.2.2.2.1 + List.length ([s.2.1] : List (List UInt8))) * 16 <= ai)) then
     let t2 : List (List UInt8) := (s.2.2.2.1 ++ ([s.2.1] : List (List UInt8)))
     some (.inl (s.1, [], (IntKind.i64.wrap (s.2.2.1 + 1)), t2, ()))
    else none
   else
    bif (decide (0 <= s.2.2.1) && decide (s.2.2.1 <= (IntKind.i64.wrap (s.2.2.1 + 1))) && decide (((IntKind.i64.wrap (s.2.2.1 + 1)) : Int) <= (List.length s.1 : Int))) then
     let t2 := (List.drop (Int.toNat s.2.2.1) (List.take (Int.toNat (IntKind.i64.wrap (s.2.2.1 + 1))) s.1))
     bif decide (List.length s.2.1 + List.length t2 <= ai) then
      some (.inl (s.1, (s.2.1 ++ t2), (IntKind.i64.wrap (s.2.2.1 + 1)), s.2.2.2.1, ()))
     else none
    else none
  else none
 else
  some (.inr (.inl (s.2.1, s.2.2.2.1, ())))
def xl := aR xj
def adh (s : List UInt8 × Unit) : Option (Bool × (List (List UInt8)) × Unit) :=
 match xl (s.1, [], 0, [], ()) with
 | none => none
 | some (.inl z0) =>
  let t1 := decide ((z0.1 : List UInt8) = [])
  some (t1, z0.2.1, ())
 | some (.inr z0) =>
  none
def zx (s : aq) : Option (aq ⊕ ((Bool × Unit) ⊕ Unit)) :=
 let t0 := (decide (s.2.1 < ((List.length s.1) : Int)))
 bif t0 then
  bif decide (0 <= s.2.1) && decide (s.2.1 < (List.length s.1 : Int)) then
   let t1 : Int := ((List.getD s.1 (Int.toNat s.2.1) 0).toNat : Int)
   bif (!(decide (t1 < 33))) then
    bif decide (0 <= s.2.1) && decide (s.2.1 < (List.length s.1 : Int)) then
     let t2 : Int := ((List.getD s.1 (Int.toNat s.2.1) 0).toNat : Int)
     bif (!(decide (t2 > 126))) then
      bif decide (0 <= s.2.1) && decide (s.2.1 < (List.length s.1 : Int)) then
       let t3 : Int := ((List.getD s.1 (Int.toNat s.2.1) 0).toNat : Int)
       bif decide (t3 = 47) then
        some (.inr (.inl (false, ())))
       else
        some (.inl (s.1, (IntKind.i64.wrap (s.2.1 + 1)), ()))
      else none
     else
      some (.inr (.inl (false, ())))
    else none
   else
    some (.inr (.inl (false, ())))
  else none
 else
  some (.inr (.inr (())))
def zz := aR zx
def aav (s : List UInt8 × Unit) : Option (Bool × Unit) :=
 let t0 := (decide ((((List.length s.1) : Int) : Int) < 1))
 bif !t0 then
  let t1 := (decide ((((List.length s.1) : Int) : Int) > 12))
  bif !t1 then
   let t2 := decide ((s.1 : List UInt8) = ([46] : List UInt8))
   bif !t2 then
    let t3 := decide ((s.1 : List UInt8) = ([46, 46] : List UInt8))
    bif t3 then
     some (false, ())
    else
     match zz (s.1, 0, ()) with
     | none => none
     | some (.inl z4) =>
      some (z4.1, ())
     | some (.inr z4) =>
      some (true, ())
   else
    some (false, ())
  else
   some (false, ())
 else
  some (false, ())
def xr (s : Bool × Int × (List (List UInt8)) × Unit) : Option ((Bool × Int × (List (List UInt8)) × Unit) ⊕ ((Bool × Unit) ⊕ (Bool × Unit))) :=
 let t0 := (decide (s.2.1 < ((List.length s.2.2.1) : Int)))
 bif t0 then
  bif decide (0 <= s.2.1) && decide (s.2.1 < (List.length s.2.2.1 : Int)) then
   let t1 := (List.getD s.2.2.1 (Int.toNat s.2.1) [])
   match aav (t1, ()) with
   | none => none
   | some r2 =>
    bif !r2.1 then
     some (.inr (.inl (false, ())))
    else
     some (.inl (s.1, (IntKind.i64.wrap (s.2.1 + 1)), s.2.2.1, ()))
  else none
 else
  some (.inr (.inr (s.1, ())))
def xu := aR xr
def nY (s : List UInt8 × Unit) : Option (Bool × Unit) :=
 match adh (s.1, ()) with
 | none => none
 | some r0 =>
  match xu (r0.1, 0, r0.2.1, ()) with
  | none => none
  | some (.inl z1) =>
   some (z1.1, ())
  | some (.inr z1) =>
   some (z1.1, ())
def zt (s : Int × List UInt8 × Int × Unit) : Option ((Int × List UInt8 × Int × Unit) ⊕ ((List UInt8 × Unit) ⊕ Unit)) :=
 bif decide (s.2.2.1 < 8) then
  let t0 := IntKind.i64.wrap ((Int.tmod s.1 16) + 1)
  bif (decide (0 <= (Int.tmod s.1 16)) && decide (((Int.tmod s.1 16) : Int) <= t0) && decide (t0 <= (List.length ([48, 49, 50, 51, 52, 53, 54, 55, 56, 57, 97, 98, 99, 100, 101, 102] : List UInt8) : Int))) then
   let t1 := (List.drop (Int.toNat (Int.tmod s.1 16)) (List.take (Int.toNat t0) ([48, 49, 50, 51, 52, 53, 54, 55, 56, 57, 97, 98, 99, 100, 101, 102] : List UInt8)))
   bif decide (List.length t1 + List.length s.2.1 <= ai) then
    let t2 := IntKind.i64.wrap (Int.tdiv s.1 16)
    some (.inl (t2, (t1 ++ s.2.1), (IntKind.i64.wrap (s.2.2.1 + 1)), ()))
   else none
  else none
 else
  some (.inr (.inl (s.2.1, ())))
def zw := aR zt
def zv (s : R4) : Option (List UInt8 × Unit) :=
 bif s.2.1 then
  some ([], ())
 else
  match zw (s.1, [], 0, ()) with
  | none => none
  | some (.inl z0) =>
   bif decide (List.length ([5] : List UInt8) + List.length z0.1 <= ai) then
    bif (decide (List.length (([5] : List UInt8) ++ z0.1) + List.length ([47] : List UInt8) <= ai)) then
     let t1 : List UInt8 := ((([5] : List UInt8) ++ z0.1) ++ ([47] : List UInt8))
     some (t1, ())
    else none
   else none
  | some (.inr z0) =>
   none

def afm (s : Int × Unit) : Option (List UInt8 × Unit) :=
 bif (!(decide (s.1 < 0))) then
  let t0 := decide (s.1 > 2147483647)
  zv (s.1, t0, ())
 else
  zv (s.1, true, ())
def qM (s : List UInt8 × Int × Int × Int × Bool × Unit) : Option (RW ⊕ (aq ⊕ Unit)) :=
 bif s.2.2.2.2.1 then
  let t0 := (IntKind.i64.wrap ((IntKind.i64.wrap (16 * s.2.1)) + s.2.2.2.1))
  some (.inl (s.1, (IntKind.i64.wrap (t0 - 48)), (IntKind.i64.wrap (s.2.2.1 + 1)), ()))
 else
  let t0 := (IntKind.i64.wrap ((IntKind.i64.wrap (16 * s.2.1)) + s.2.2.2.1))
  let t1 := (IntKind.i64.wrap ((IntKind.i64.wrap (t0 - 97)) + 10))
  some (.inl (s.1, t1, (IntKind.i64.wrap (s.2.2.1 + 1)), ()))

def vM (s : RW) : Option (RW ⊕ (aq ⊕ Unit)) :=
 bif decide (s.2.2.1 < 9) then
  bif decide (0 <= s.2.2.1) && decide (s.2.2.1 < (List.length s.1 : Int)) then
   let t0 : Int := ((List.getD s.1 (Int.toNat s.2.2.1) 0).toNat : Int)
   let t1 := (decide (((IntKind.i64.wrap t0) : Int) >= 48))
   bif t1 then
    let t2 := (decide (((IntKind.i64.wrap t0) : Int) <= 57))
    qM (s.1, s.2.1, s.2.2.1, (IntKind.i64.wrap t0), t2, ())
   else
    qM (s.1, s.2.1, s.2.2.1, (IntKind.i64.wrap t0), false, ())
  else none
 else
  some (.inr (.inl (s.1, s.2.1, ())))
def vO := aR vM
def po (s : List UInt8 × Unit) : Option (Bool × Unit) :=
 let t0 := (!decide ((((List.length s.1) : Int) : Int) = 10))
 bif t0 then
  some (false, ())
 else
  match vO (s.1, 0, 1, ()) with
  | none => none
  | some (.inl z1) =>
   match afm (z1.2.1, ()) with
   | none => none
   | some r2 =>
    some ((decide ((r2.1 : List UInt8) = z1.1)), ())
  | some (.inr z1) =>
   none
def aO (s : Bool × bN × Unit) : Option ((bN × Unit) ⊕ (Bool × Unit)) :=
 bif s.1 then
  some (.inr (false, ()))
 else
  some (.inl (s.2.1, ()))
def gf (s : bN × Unit) : Option ((Bool × Unit) ⊕ Unit) :=
 bif decide (s.1.2.1 = 4) then
  match nY (s.1.1, ()) with
  | none => none
  | some r0 =>
   some (.inl (r0.1, ()))
 else
  some (.inl (false, ()))
def bu (s : bN × Unit) : Option ((Bool × Unit) ⊕ Unit) :=
 bif decide (s.1.2.1 = 1) then
  some (.inl (true, ()))
 else
  bif decide (s.1.2.1 = 2) then
   bif decide (s.1.2.2.1 >= 0) then
    let t0 := decide (s.1.2.2.1 <= 60000)
    some (.inl (t0, ()))
   else
    some (.inl (false, ()))
  else
   bif decide (s.1.2.1 = 3) then
    match aav (s.1.2.2.2.1, ()) with
    | none => none
    | some r0 =>
     some (.inl (r0.1, ()))
   else
    match gf (s.1, ()) with
    | none => none
    | some (.inl z0) =>
     some (.inl (z0.1, ()))
    | some (.inr z0) =>
     none
def adj (s : bN × Unit) : Option (Bool × Unit) :=
 match nY (s.1.1, ()) with
 | none => none
 | some r0 =>
  bif !r0.1 then
   match po (s.1.1, ()) with
   | none => none
   | some r1 =>
    bif (!(!r1.1)) then
     bif (!decide (s.1.2.1 = 2)) then
      let t2 := (!decide (s.1.2.2.1 = 0))
      bif !t2 then
       bif (!decide (s.1.2.1 = 3)) then
        let t3 := (!decide ((s.1.2.2.2.1 : List UInt8) = []))
        match aO (t3, s.1, ()) with
        | none => none
        | some (.inl z4) =>
         match bu (z4.1, ()) with
         | none => none
         | some (.inl z5) =>
          some (z5.1, ())
         | some (.inr z5) =>
          none
        | some (.inr z4) =>
         some (z4.1, ())
       else
        match aO (false, s.1, ()) with
        | none => none
        | some (.inl z3) =>
         match bu (z3.1, ()) with
         | none => none
         | some (.inl z4) =>
          some (z4.1, ())
         | some (.inr z4) =>
          none
        | some (.inr z3) =>
         some (z3.1, ())
      else
       match aO (true, s.1, ()) with
       | none => none
       | some (.inl z3) =>
        match bu (z3.1, ()) with
        | none => none
        | some (.inl z4) =>
         some (z4.1, ())
        | some (.inr z4) =>
         none
       | some (.inr z3) =>
        some (z3.1, ())
     else
      bif (!decide (s.1.2.1 = 3)) then
       let t2 := (!decide ((s.1.2.2.2.1 : List UInt8) = []))
       match aO (t2, s.1, ()) with
       | none => none
       | some (.inl z3) =>
        match bu (z3.1, ()) with
        | none => none
        | some (.inl z4) =>
         some (z4.1, ())
        | some (.inr z4) =>
         none
       | some (.inr z3) =>
        some (z3.1, ())
      else
       match aO (false, s.1, ()) with
       | none => none
       | some (.inl z2) =>
        match bu (z2.1, ()) with
        | none => none
        | some (.inl z3) =>
         some (z3.1, ())
        | some (.inr z3) =>
         none
       | some (.inr z2) =>
        some (z2.1, ())
    else
     match aO (true, s.1, ()) with
     | none => none
     | some (.inl z2) =>
      match bu (z2.1, ()) with
      | none => none
      | some (.inl z3) =>
       some (z3.1, ())
      | some (.inr z3) =>
       none
     | some (.inr z2) =>
      some (z2.1, ())
  else
   bif (!decide (s.1.2.1 = 2)) then
    let t1 := (!decide (s.1.2.2.1 = 0))
    bif !t1 then
     bif (!decide (s.1.2.1 = 3)) then
      let t2 := (!decide ((s.1.2.2.2.1 : List UInt8) = []))
      match aO (t2, s.1, ()) with
      | none => none
      | some (.inl z3) =>
       match bu (z3.1, ()) with
       | none => none
       | some (.inl z4) =>
        some (z4.1, ())
       | some (.inr z4) =>
        none
      | some (.inr z3) =>
       some (z3.1, ())
     else
      match aO (false, s.1, ()) with
      | none => none
      | some (.inl z2) =>
       match bu (z2.1, ()) with
       | none => none
       | some (.inl z3) =>
        some (z3.1, ())
       | some (.inr z3) =>
        none
      | some (.inr z2) =>
       some (z2.1, ())
    else
     match aO (true, s.1, ()) with
     | none => none
     | some (.inl z2) =>
      match bu (z2.1, ()) with
      | none => none
      | some (.inl z3) =>
       some (z3.1, ())
      | some (.inr z3) =>
       none
     | some (.inr z2) =>
      some (z2.1, ())
   else
    bif (!decide (s.1.2.1 = 3)) then
     let t1 := (!decide ((s.1.2.2.2.1 : List UInt8) = []))
     match aO (t1, s.1, ()) with
     | none => none
     | some (.inl z2) =>
      match bu (z2.1, ()) with
      | none => none
      | some (.inl z3) =>
       some (z3.1, ())
      | some (.inr z3) =>
       none
     | some (.inr z2) =>
      some (z2.1, ())
    else
     match aO (false, s.1, ()) with
     | none => none
     | some (.inl z1) =>
      match bu (z1.1, ()) with
      | none => none
      | some (.inl z2) =>
       some (z2.1, ())
      | some (.inr z2) =>
       none
     | some (.inr z1) =>
      some (z1.1, ())
def ahq (s : bN × Unit) : Option aq :=
 match adj (s.1, ()) with
 | none => none
 | some r0 =>
  bif !r0.1 then
   some ([], 12, ())
  else
   bif decide (s.1.2.1 = 1) then
    bif decide (List.length s.1.1 + List.length ([1] : List UInt8) <= ai) then
     some ((s.1.1 ++ ([1] : List UInt8)), 0, ())
    else none
   else
    bif decide (s.1.2.1 = 2) then
     bif decide (List.length s.1.1 + List.length ([2] : List UInt8) <= ai) then
      let t1 := IntKind.i64.wrap (Int.tdiv s.1.2.2.1 256)
      let t2 := (IntKind.u8.wrap (Int.tmod s.1.2.2.1 256))
      let t3 : List UInt8 := (oi ([(IntKind.u8.wrap t1), t2] : List Int))
      bif (decide (List.length (s.1.1 ++ ([2] : List UInt8)) + List.length t3 <= ai)) then
       some (((s.1.1 ++ ([2] : List UInt8)) ++ t3), 0, ())
      else none
     else none
    else
     bif decide (s.1.2.1 = 3) then
      bif decide (List.length s.1.1 + List.length ([3] : List UInt8) <= ai) then
       bif (decide (List.length (s.1.1 ++ ([3] : List UInt8)) + List.length s.1.2.2.2.1 <= ai)) then
        let t1 : List UInt8 := ((s.1.1 ++ ([3] : List UInt8)) ++ s.1.2.2.2.1)
        some (t1, 0, ())
       else none
      else none
     else
      bif decide (List.length ([6] : List UInt8) + List.length s.1.1 <= ai) then
       bif (decide (List.length (([6] : List UInt8) ++ s.1.1) + List.length ([1] : List UInt8) <= ai)) then
        let t1 : List UInt8 := ((([6] : List UInt8) ++ s.1.1) ++ ([1] : List UInt8))
        some (t1, 0, ())
       else none
      else none
def rQ (s : List UInt8 × Int × Bool × List UInt8 × Int × Int × List UInt8 × Unit) : Option (Rm ⊕ ((Int × bN × Unit) ⊕ bN)) :=
 bif s.2.2.1 then
  some (.inl (s.1, (IntKind.i64.wrap (s.2.1 + 1)), s.2.2.2.1, s.2.2.2.2.1, s.2.2.2.2.2.1, s.2.2.2.2.2.2.1, ()))
 else
  match adi (s.1, s.2.1, ()) with
  | none => none
  | some r0 =>
   match ahq (r0.1, ()) with
   | none => none
   | some r1 =>
    bif decide (r1.2.1 = 0) then
     bif decide ((r1.1 : List UInt8) = s.1) then
      some (.inr (.inl (0, r0.1, ())))
     else
      some (.inl (s.1, (IntKind.i64.wrap (s.2.1 + 1)), s.2.2.2.1, s.2.2.2.2.1, s.2.2.2.2.2.1, s.2.2.2.2.2.2.1, ()))
    else
     some (.inl (s.1, (IntKind.i64.wrap (s.2.1 + 1)), s.2.2.2.1, s.2.2.2.2.1, s.2.2.2.2.2.1, s.2.2.2.2.2.2.1, ()))

def xm (s : Rm) : Option (Rm ⊕ ((Int × bN × Unit) ⊕ bN)) :=
 let t0 := (decide (s.2.1 < ((List.length s.1) : Int)))
 bif t0 then
  bif decide (0 <= s.2.1) && decide (s.2.1 < (List.length s.1 : Int)) then
   let t1 : Int := ((List.getD s.1 (Int.toNat s.2.1) 0).toNat : Int)
   bif (!(decide (t1 < 1))) then
    bif decide (0 <= s.2.1) && decide (s.2.1 < (List.length s.1 : Int)) then
     let t2 : Int := ((List.getD s.1 (Int.toNat s.2.1) 0).toNat : Int)
     rQ (s.1, s.2.1, (decide (t2 > 3)), s.2.2.1, s.2.2.2.1, s.2.2.2.2.1, s.2.2.2.2.2.1, ())
    else none
   else
    rQ (s.1, s.2.1, true, s.2.2.1, s.2.2.2.1, s.2.2.2.2.1, s.2.2.2.2.2.1, ())
  else none
 else
  some (.inr (.inr (s.2.2.1, s.2.2.2.1, s.2.2.2.2.1, s.2.2.2.2.2.1, ())))
def xp := aR xm
def jq (s : List UInt8 × Unit) : Option (bN × Int × Unit) :=
 match xp (s.1, 0, [], 0, 0, [], ()) with
 | none => none
 | some (.inl z0) =>
  some (z0.2.1, z0.1, ())
 | some (.inr z0) =>
  some (([], (0, (0, ([], ())))), 12, ())
def kv (s : List UInt8 × Unit) : Option (Bool × Unit) :=
 match jq (s.1, ()) with
 | none => none
 | some r0 =>
  bif decide (r0.2.1 = 0) then
   some ((decide (r0.1.2.1 = 1)), ())
  else
   some (false, ())
def jP (s : bF × Int × Unit) : Option hK :=
 let t0 : Int := (if ((IntKind.i64.wrap (s.1.2.1 + s.2.1)) : Int) < 1000000000000000 then (IntKind.i64.wrap (s.1.2.1 + s.2.1)) else 1000000000000000)
 some ((s.1.1, (t0, ())), ())
def od (s : bF × Int × Unit) : Option hK :=
 let t0 : Int := (if (0 : Int) < (IntKind.i64.wrap (s.1.1 - s.2.1)) then (IntKind.i64.wrap (s.1.1 - s.2.1)) else 0)
 some ((t0, (s.1.2.1, ())), ())
def mn (s : List UInt8 × List UInt8 × Bool × Bool × Unit) : Option (Bool × Unit) :=
 bif !s.2.2.1 then
  bif !s.2.2.2.1 then
   match po (s.1, ()) with
   | none => none
   | some r0 =>
    bif r0.1 then
     match po (s.2.1, ()) with
     | none => none
     | some r1 =>
      some (r1.1, ())
    else
     some (false, ())
  else
   some (true, ())
 else
  some (true, ())
def mj (s : RM) : Option (Bool × Unit) :=
 let t0 := (!decide ((s.1 : List UInt8) = []))
 bif t0 then
  let t1 := (!decide ((s.2.1 : List UInt8) = []))
  bif t1 then
   match nY (s.1, ()) with
   | none => none
   | some r2 =>
    bif r2.1 then
     match nY (s.2.1, ()) with
     | none => none
     | some r3 =>
      mn (s.1, s.2.1, s.2.2.1, r3.1, ())
    else
     mn (s.1, s.2.1, s.2.2.1, false, ())
  else
   mn (s.1, s.2.1, s.2.2.1, false, ())
 else
  mn (s.1, s.2.1, s.2.2.1, false, ())

def ref10_Alike (s : ac) : Option (Bool × Unit) :=
 let t0 := (decide ((((List.length s.1) : Int) : Int) > 0))
 bif t0 then
  bif decide ((0 : Int) < (List.length s.1 : Int)) then
   let t1 := (decide ((((List.getD s.1 0 0).toNat : Int) : Int) = 6))
   bif t1 then
    let t2 := (decide ((((List.length s.2.1) : Int) : Int) > 0))
    bif t2 then
     bif decide ((0 : Int) < (List.length s.2.1 : Int)) then
      let t3 := (decide ((((List.getD s.2.1 0 0).toNat : Int) : Int) = 6))
      mj (s.1, s.2.1, t3, ())
     else none
    else
     mj (s.1, s.2.1, false, ())
   else
    mj (s.1, s.2.1, false, ())
  else none
 else
  mj (s.1, s.2.1, false, ())
def px (s : api_Sum × ae × Unit) : Option (api_Sum × Unit) :=
 bif decide (s.2.1.1 = 1) then
  match kv (s.2.1.2.1, ()) with
  | none => none
  | some r0 =>
   bif r0.1 then
    match jP (s.1.1, 1, ()) with
    | none => none
    | some r1 =>
     some ((r1.1, (s.1.2.1, ())), ())
   else
    match od (s.1.2.1, 64, ()) with
    | none => none
    | some r1 =>
     match jP (r1.1, ((List.length s.2.1.2.2.1) : Int), ()) with
     | none => none
     | some r2 =>
      some ((s.1.1, (r2.1, ())), ())
 else
  bif decide (s.2.1.1 = 2) then
   match kv (s.2.1.2.1, ()) with
   | none => none
   | some r0 =>
    bif r0.1 then
     match od (s.1.1, 1, ()) with
     | none => none
     | some r1 =>
      some ((r1.1, (s.1.2.1, ())), ())
    else
     match od (s.1.2.1, 64, ()) with
     | none => none
     | some r1 =>
      some ((s.1.1, (r1.1, ())), ())
  else
   bif decide (s.2.1.1 = 6) then
    some (s.1, ())
   else
    bif decide (s.2.1.1 = 3) then
     some (((0, (s.1.1.2.1, ())), ((0, (s.1.2.1.2.1, ())), ())), ())
    else
     match ref10_Alike (s.2.1.2.2.2.2.1, s.2.1.2.2.2.2.2.1, ()) with
     | none => none
     | some r0 =>
      bif !r0.1 then
       some (((0, (1000000000000000, ())), ((0, (1000000000000000, ())), ())), ())
      else
       bif decide (s.2.1.1 = 5) then
        match jP ((0, (s.1.1.2.1, ())), s.1.1.2.1, ()) with
        | none => none
        | some r1 =>
         match jP ((0, (s.1.2.1.2.1, ())), s.1.2.1.2.1, ()) with
         | none => none
         | some r2 =>
          some ((r1.1, (r2.1, ())), ())
       else
        some (((0, (s.1.1.2.1, ())), ((0, (s.1.2.1.2.1, ())), ())), ())
def pu (s : aa × Unit) : Option hK :=
 match jq (s.1.1, ()) with
 | none => none
 | some r0 =>
  bif (!decide (r0.2.1 = 0)) then
   some ((0, (0, ())), ())
  else
   bif decide (r0.1.2.1 = 1) then
    some ((1, (0, ())), ())
   else
    bif decide (r0.1.2.1 = 2) then
     some ((0, (((List.length s.1.2.1) : Int), ())), ())
    else
     bif decide (r0.1.2.1 = 3) then
      some ((0, (((List.length s.1.2.1) : Int), ())), ())
     else
      some ((0, (0, ())), ())
def jt (s : List aa × Int × Int × Int × Int × Int × Unit) : Option ((List aa × Int × Int × Int × Int × Int × Unit) ⊕ ((Int × Int × Int × Int × Unit) ⊕ Unit)) :=
 let t0 := (decide (s.2.1 < ((List.length s.1) : Int)))
 bif t0 then
  bif decide (0 <= s.2.1) && decide (s.2.1 < (List.length s.1 : Int)) then
   let t1 := (List.getD s.1 (Int.toNat s.2.1) ([], ([], (0, ()))))
   match pu (t1, ()) with
   | none => none
   | some r2 =>
    let t3 := IntKind.i64.wrap (s.2.2.2.2.1 + r2.1.1)
    let t4 := IntKind.i64.wrap (s.2.2.2.2.2.1 + r2.1.2.1)
    some (.inl (s.1, (IntKind.i64.wrap (s.2.1 + 1)), s.2.2.1, s.2.2.2.1, t3, t4, ()))
  else none
 else
  some (.inr (.inl (s.2.2.1, s.2.2.2.1, s.2.2.2.2.1, s.2.2.2.2.2.1, ())))
def qQ := aR jt
def rR (s : List aa × Unit) : Option hK :=
 match qQ (s.1, 0, 0, 0, 0, 0, ()) with
 | none => none
 | some (.inl z0) =>
  some ((z0.2.2.1, (z0.2.2.2.1, ())), ())
 | some (.inr z0) =>
  none
def xA (s : hK) : Option (api_Sum × Unit) :=
 some (((s.1.1, (s.1.1, ())), ((s.1.2.1, (s.1.2.1, ())), ())), ())
def mq (s : Rw) : Option (Rw ⊕ ((api_Node × Int × Int × Int × Int × api_Sum × Unit) ⊕ Unit)) :=
 let t0 := (decide (s.1 < ((List.length s.2.1.2.2.2.1) : Int)))
 bif t0 then
  bif decide (0 <= s.1) && decide (s.1 < (List.length s.2.1.2.2.2.1 : Int)) then
   let t1 := (List.getD s.2.1.2.2.2.1 (Int.toNat s.1) ((0, (0, ())), ((0, (0, ())), ())))
   match aay (s.2.2.2.2.2.2.1, t1, ()) with
   | none => none
   | some r2 =>
    some (.inl ((IntKind.i64.wrap (s.1 + 1)), s.2.1, s.2.2.1, s.2.2.2.1, s.2.2.2.2.1, s.2.2.2.2.2.1, r2.1, ()))
  else none
 else
  some (.inr (.inl (s.2.1, s.2.2.1, s.2.2.2.1, s.2.2.2.2.1, s.2.2.2.2.2.1, s.2.2.2.2.2.2.1, ())))
def uU := aR mq
def mr (s : Rw) : Option (Rw ⊕ ((Int × Int × Int × Int × api_Sum × Unit) ⊕ Unit)) :=
 let t0 := (decide (s.1 < ((List.length s.2.1.2.2.2.2.1) : Int)))
 bif t0 then
  bif decide (0 <= s.1) && decide (s.1 < (List.length s.2.1.2.2.2.2.1 : Int)) then
   let t1 := (List.getD s.2.1.2.2.2.2.1 (Int.toNat s.1) (0, ([], ([], (([], ([], ())), ([], ([], (0, ()))))))))
   match px (s.2.2.2.2.2.2.1, t1, ()) with
   | none => none
   | some r2 =>
    some (.inl ((IntKind.i64.wrap (s.1 + 1)), s.2.1, s.2.2.1, s.2.2.2.1, s.2.2.2.2.1, s.2.2.2.2.2.1, r2.1, ()))
  else none
 else
  some (.inr (.inl (s.2.2.1, s.2.2.2.1, s.2.2.2.2.1, s.2.2.2.2.2.1, s.2.2.2.2.2.2.1, ())))
def uV := aR mr
def iS (s : api_Node × Unit) : Option (api_Sum × Unit) :=
 let t0 := (decide ((((List.length s.1.2.2.1) : Int) : Int) = 0))
 bif t0 then
  match rR (s.1.1, ()) with
  | none => none
  | some r1 =>
   match xA (r1.1, ()) with
   | none => none
   | some r2 =>
    some (r2.1, ())
 else
  match uU (0, s.1, 0, 0, 0, 0, ((0, (0, ())), ((0, (0, ())), ())), ()) with
  | none => none
  | some (.inl z1) =>
   match uV (0, z1.1, z1.2.1, z1.2.2.1, z1.2.2.2.1, z1.2.2.2.2.1, z1.2.2.2.2.2.1, ()) with
   | none => none
   | some (.inl z2) =>
    some (z2.2.2.2.2.1, ())
   | some (.inr z2) =>
    none
  | some (.inr z1) =>
   none
def nJ (s : Int × List aj × Unit) : Option (Bool × List aj × Unit) :=
 bif decide (s.1 >= 0) then
  let t0 := (decide (s.1 < ((List.length s.2.1) : Int)))
  bif t0 then
   bif decide (0 <= s.1) && decide (s.1 < (List.length s.2.1 : Int)) then
    let t1 := (List.getD s.2.1 (Int.toNat s.1) (false, (false, (0, (([], ([], ([], ([], ([], ()))))), ())))))
    some (t1.1, s.2.1, ())
   else none
  else
   some (false, s.2.1, ())
 else
  some (false, s.2.1, ())
def kw (s : List Int × List aj × List aj × Unit) : Option ((List Int × List aj × List aj × Unit) ⊕ ((List aj × List aj × Unit) ⊕ Unit)) :=
 let t0 := (decide ((((List.length s.1) : Int) : Int) > 0))
 bif t0 then
  bif decide ((0 : Int) < (List.length s.1 : Int)) then
   bif (decide ((1 : Int) <= (List.length s.1 : Int)) && decide (((List.length s.1 : Int) : Int) <= (List.length s.1 : Int))) then
    let t1 := (List.drop (Int.toNat 1) (List.take (Int.toNat (List.length s.1 : Int)) s.1))
    match nJ ((List.getD s.1 0 0), s.2.2.1, ()) with
    | none => none
    | some r2 =>
     bif !r2.1 then
      some (.inl (t1, s.2.1, r2.2.1, ()))
     else
      bif (decide (0 <= (List.getD s.1 0 0)) && decide (((List.getD s.1 0 0) : Int) < (List.length r2.2.1 : Int))) then
       let t3 := (List.getD r2.2.1 (Int.toNat (List.getD s.1 0 0)) (false, (false, (0, (([], ([], ([], ([], ([], ()))))), ())))))
       let t4 := IntKind.i64.wrap (t3.2.2.1 - 1)
       bif (decide (0 <= (List.getD s.1 0 0)) && decide (((List.getD s.1 0 0) : Int) < (List.length r2.2.1 : Int))) then
        let t5 := (List.set r2.2.1 (Int.toNat (List.getD s.1 0 0)) ((List.getD r2.2.1 (Int.toNat (List.getD s.1 0 0)) (false, (false, (0, (([], ([], ([], ([], ([], ()))))), ()))))).1, ((List.getD r2.2.1 (Int.toNat (List.getD s.1 0 0)) (false, (false, (0, (([], ([], ([], ([], ([], ()))))), ()))))).2.1, (t4, (List.getD r2.2.1 (Int.toNat (List.getD s.1 0 0)) (false, (false, (0, (([], ([], ([], ([], ([], ()))))), ()))))).2.2.2))))
        bif (decide (0 <= (List.getD s.1 0 0)) && decide (((List.getD s.1 0 0) : Int) < (List.length t5 : Int))) then
         let t6 := (List.getD t5 (Int.toNat (List.getD s.1 0 0)) (false, (false, (0, (([], ([], ([], ([], ([], ()))))), ())))))
         bif decide (t6.2.2.1 = 0) then
          bif (decide ((List.length ([] : List Int) + List.length t1) * 8 <= ai)) then
           bif (decide (0 <= (List.getD s.1 0 0)) && decide (((List.getD s.1 0 0) : Int) < (List.length t5 : Int))) then
            let t7 := (List.getD t5 (Int.toNat (List.getD s.1 0 0)) (false, (false, (0, (([], ([], ([], ([], ([], ()))))), ())))))
            bif (decide ((List.length ([] ++ t1) + List.length t7.2.2.2.1.2.2.1) * 8 <= ai)) then
             let t8 : List Int := (([] ++ t1) ++ t7.2.2.2.1.2.2.1)
             bif (decide (0 <= (List.getD s.1 0 0)) && decide (((List.getD s.1 0 0) : Int) < (List.length t5 : Int))) then
              let t9 := (List.set t5 (Int.toNat (List.getD s.1 0 0)) (false, (false, (0, (([], ([], ([], ([], ([], ()))))), ())))))
              some (.inl (t8, s.2.1, t9, ()))
             else none
            else none
           else none
          else none
         else
          some (.inl (t1, s.2.1, t5, ()))
        else none
       else none
      else none
   else none
  else none
 else
  some (.inr (.inl (s.2.1, s.2.2.1, ())))
def sJ := aR kw
def qY (s : aH) : Option aH :=
 match nl (s.1, s.2.1, ()) with
 | none => none
 | some r0 =>
  bif !r0.1 then
   some (s.1, 110, ())
  else
   match mz (s.1, ()) with
   | none => none
   | some r1 =>
    match sJ (([s.2.1] : List Int), [], r1.1, ()) with
    | none => none
    | some (.inl z2) =>
     some ((z2.2.1, ()), 0, ())
    | some (.inr z2) =>
     none
def adl (s : Rb) : Option (Rb ⊕ ((List aj × Int × Int × Int × Int × List aa × (List (List UInt8)) × List ae × au × List Int × List api_Sum × Unit) ⊕ Unit)) :=
 let t0 : Int := ((List.length s.2.2.2.2.2.2.2.2.2.2.1) : Int)
 bif decide (s.2.1 < t0) then
  bif decide (0 <= s.2.1) && decide (s.2.1 < (List.length s.2.2.2.2.2.2.2.2.2.2.1 : Int)) then
   let t1 := (List.getD s.2.2.2.2.2.2.2.2.2.2.1 (Int.toNat s.2.1) ([], ([], ())))
   match oc (s.1, t1, ()) with
   | none => none
   | some r2 =>
    match nk (s.2.2.2.2.2.2.2.2.2.2.2.1, (r2.1, ([], ([], ([], ([], ()))))), ()) with
    | none => none
    | some r3 =>
     bif (decide ((List.length s.2.2.2.2.2.2.2.2.2.2.2.2.1 + List.length ([r3.1.2.1] : List Int)) * 8 <= ai)) then
      let t4 : List Int := (s.2.2.2.2.2.2.2.2.2.2.2.2.1 ++ ([r3.1.2.1] : List Int))
      match iS ((r2.1, ([], ([], ([], ([], ()))))), ()) with
      | none => none
      | some r5 =>
       bif (decide ((List.length s.2.2.2.2.2.2.2.2.2.2.2.2.2.1 + List.length ([r5.1] : List api_Sum)) * 32 <= ai)) then
        let t6 : List api_Sum := (s.2.2.2.2.2.2.2.2.2.2.2.2.2.1 ++ ([r5.1] : List api_Sum))
        some (.inl (s.1, (IntKind.i64.wrap (s.2.1 + 1)), s.2.2.1, s.2.2.2.1, s.2.2.2.2.1, s.2.2.2.2.2.1, s.2.2.2.2.2.2.1, s.2.2.2.2.2.2.2.1, s.2.2.2.2.2.2.2.2.1, s.2.2.2.2.2.2.2.2.2.1, s.2.2.2.2.2.2.2.2.2.2.1, r3.1.1, t4, t6, ()))
       else none
     else none
  else none
 else
  some (.inr (.inl (s.2.2.1, s.2.2.2.1, s.2.2.2.2.1, s.2.2.2.2.2.1, s.2.2.2.2.2.2.1, s.2.2.2.2.2.2.2.1, s.2.2.2.2.2.2.2.2.1, s.2.2.2.2.2.2.2.2.2.1, s.2.2.2.2.2.2.2.2.2.2.2.1, s.2.2.2.2.2.2.2.2.2.2.2.2.1, s.2.2.2.2.2.2.2.2.2.2.2.2.2.1, ())))
def adn := aR adl
def adm (s : Rc) : Option (Rc ⊕ ((List aj × Int × Int × Int × Int × au × co × Unit) ⊕ Unit)) :=
 let t0 : Int := ((List.length s.2.2.2.2.2.2.2.2.2.2.2.1) : Int)
 bif decide (s.1 < t0) then
  bif decide (0 <= s.1) && decide (s.1 < (List.length s.2.2.2.2.2.2.2.2.2.2.2.1 : Int)) then
   let t1 := (List.getD s.2.2.2.2.2.2.2.2.2.2.2.1 (Int.toNat s.1) 0)
   match qY (s.2.2.2.2.2.2.2.2.2.1, t1, ()) with
   | none => none
   | some r2 =>
    some (.inl ((IntKind.i64.wrap (s.1 + 1)), s.2.1, s.2.2.1, s.2.2.2.1, s.2.2.2.2.1, s.2.2.2.2.2.1, s.2.2.2.2.2.2.1, s.2.2.2.2.2.2.2.1, s.2.2.2.2.2.2.2.2.1, r2.1, s.2.2.2.2.2.2.2.2.2.2.1, s.2.2.2.2.2.2.2.2.2.2.2.1, s.2.2.2.2.2.2.2.2.2.2.2.2.1, ()))
  else none
 else
  some (.inr (.inl (s.2.1, s.2.2.1, s.2.2.2.1, s.2.2.2.2.1, s.2.2.2.2.2.1, s.2.2.2.2.2.2.2.2.2.1, s.2.2.2.2.2.2.2.2.2.2.1, ())))
def ado := aR adm
def af7 (s : List aa × (List (List UInt8)) × List ae × Unit) : Option (am × Unit) :=
 let t0 := (IntKind.i64.wrap (((List.length s.2.1) : Int) + 1))
 bif (decide (0 <= t0) && decide (t0 <= t0) && decide (t0 * 8 <= (ai : Int))) then
  match gD ((([] : List aa), (s.2.1, ((List.replicate (Int.toNat t0) (0 : Int)), (([] : List api_Sum), (([] : List ae), ()))))), (([] : List UInt8), (([] : List UInt8), ())), ()) with
  | none => none
  | some r1 =>
   match adn (s.1, 0, [], 0, 0, 0, 0, [], s.2.1, s.2.2.1, r1.1, ([], ()), [], [], ()) with
   | none => none
   | some (.inl z2) =>
    match nk (z2.2.2.2.2.2.2.2.2.1, (z2.2.2.2.2.2.1, (z2.2.2.2.2.2.2.1, (z2.2.2.2.2.2.2.2.2.2.1, (z2.2.2.2.2.2.2.2.2.2.2.1, (z2.2.2.2.2.2.2.2.1, ()))))), ()) with
    | none => none
    | some r3 =>
     match ado (0, z2.1, z2.2.1, z2.2.2.1, z2.2.2.2.1, z2.2.2.2.2.1, z2.2.2.2.2.2.1, z2.2.2.2.2.2.2.1, z2.2.2.2.2.2.2.2.1, r3.1.1, r3.1, z2.2.2.2.2.2.2.2.2.2.1, z2.2.2.2.2.2.2.2.2.2.2.1, ()) with
     | none => none
     | some (.inl z4) =>
      some ((z4.2.2.2.2.2.1, (z4.2.2.2.2.2.2.1.2.1, ((4, (4, (4, ()))), ()))), ())
     | some (.inr z4) =>
      none
   | some (.inr z2) =>
    none
 else none
def lz (s : aH) : Option (Bool × Unit) :=
 bif decide (s.2.1 >= 0) then
  let t0 := (decide (s.2.1 < ((List.length s.1.1) : Int)))
  bif t0 then
   bif decide (0 <= s.2.1) && decide (s.2.1 < (List.length s.1.1 : Int)) then
    let t1 := (List.getD s.1.1 (Int.toNat s.2.1) (false, (false, (0, (([], ([], ([], ([], ([], ()))))), ())))))
    some (t1.1, ())
   else none
  else
   some (false, ())
 else
  some (false, ())
def eV (s : aH) : Option (api_Node × Int × Unit) :=
 match lz (s.1, s.2.1, ()) with
 | none => none
 | some r0 =>
  bif !r0.1 then
   some (([], ([], ([], ([], ([], ()))))), 110, ())
  else
   bif decide (0 <= s.2.1) && decide (s.2.1 < (List.length s.1.1 : Int)) then
    let t1 := (List.getD s.1.1 (Int.toNat s.2.1) (false, (false, (0, (([], ([], ([], ([], ([], ()))))), ())))))
    bif t1.2.1 then
     some (([], ([], ([], ([], ([], ()))))), 112, ())
    else
     bif decide (0 <= s.2.1) && decide (s.2.1 < (List.length s.1.1 : Int)) then
      let t2 := (List.getD s.1.1 (Int.toNat s.2.1) (false, (false, (0, (([], ([], ([], ([], ([], ()))))), ())))))
      some (t2.2.2.2.1, 0, ())
     else none
   else none
def dd (s : Int × Unit) : Option (List ae × Unit) :=
 bif decide (s.1 < 0) then
  none
 else
  let t0 := IntKind.i64.wrap (0 - 0)
  let t1 := (decide (((IntKind.i64.wrap (s.1 - t0)) : Int) > 0))
  bif t1 then
   bif (decide (0 < (IntKind.i64.wrap (s.1 - t0))) && decide ((IntKind.i64.wrap (s.1 - t0)) * 112 <= (ai : Int))) then
    bif (decide (((0 : Int) : Int) <= (List.length (List.replicate (Int.toNat (IntKind.i64.wrap (s.1 - t0))) ((0 : Int), (([] : List UInt8), (([] : List UInt8), ((([] : List UInt8), (([] : List UInt8), ())), (([] : List UInt8), (([] : List UInt8), ((0 : Int), ())))))))) : Int))) then
     let t2 := (List.take 0 (List.replicate (Int.toNat (IntKind.i64.wrap (s.1 - t0))) ((0 : Int), (([] : List UInt8), (([] : List UInt8), ((([] : List UInt8), (([] : List UInt8), ())), (([] : List UInt8), (([] : List UInt8), ((0 : Int), ())))))))))
     some (t2, ())
    else none
   else none
  else
   some ([], ())
def aL (s : Ro) : Option (Ro ⊕ (((List (List ae)) × Int × Unit) ⊕ Unit)) :=
 let t0 := decide (s.2.2.2.2.1 < s.2.2.2.1)
 bif t0 then
  bif decide (0 <= s.2.2.2.2.1) && decide (s.2.2.2.2.1 < (List.length s.2.2.1 : Int)) then
   let t1 := (List.getD s.2.2.1 (Int.toNat s.2.2.2.2.1) [])
   let t2 := (IntKind.i64.wrap (s.2.1 + ((List.length t1) : Int)))
   bif decide (t2 < 0) then
    none
   else
    let t3 := IntKind.i64.wrap (s.2.2.2.2.1 + 1)
    some (.inl (s.1, t2, s.2.2.1, s.2.2.2.1, t3, ()))
  else none
 else
  some (.inr (.inl (s.1, s.2.1, ())))
def dy := aR aL
def aM (s : (List (List ae)) × Int × Int × List ae × Unit) : Option (((List (List ae)) × Int × Int × List ae × Unit) ⊕ ((List ae × Unit) ⊕ Unit)) :=
 bif decide (s.2.2.1 < s.2.1) then
  bif decide (0 <= s.2.2.1) && decide (s.2.2.1 < (List.length s.1 : Int)) then
   let t0 := (List.getD s.1 (Int.toNat s.2.2.1) [])
   bif decide ((List.length s.2.2.2.1 + List.length t0) * 112 <= ai) then
    some (.inl (s.1, s.2.1, (IntKind.i64.wrap (s.2.2.1 + 1)), (s.2.2.2.1 ++ t0), ()))
   else none
  else none
 else
  some (.inr (.inl (s.2.2.2.1, ())))
def dz := aR aM
def cI (s : (List (List ae)) × Unit) : Option (List ae × Unit) :=
 match dy (s.1, 0, s.1, ((List.length s.1) : Int), 0, ()) with
 | none => none
 | some (.inl z0) =>
  match dd (z0.2.1, ()) with
  | none => none
  | some r1 =>
   match dz (z0.1, ((List.length z0.1) : Int), 0, r1.1, ()) with
   | none => none
   | some (.inl z2) =>
    some (z2.1, ())
   | some (.inr z2) =>
    none
 | some (.inr z0) =>
  none
def fN (s : List UInt8 × Unit) : Option (Bool × Unit) :=
 some ((!decide ((s.1 : List UInt8) = s.1)), ())
def gm (s : ac) : Option (Int × Unit) :=
 match fN (s.1, ()) with
 | none => none
 | some r0 =>
  match fN (s.2.1, ()) with
  | none => none
  | some r1 =>
   bif r0.1 then
    bif r1.1 then
     some (0, ())
    else
     some ((-1 : Int), ())
   else
    bif r1.1 then
     some (1, ())
    else
     bif (Op.bytesLess s.1 s.2.1) then
      some ((-1 : Int), ())
     else
      let t2 := (!(Op.bytesLess s.1 s.2.1 || decide ((s.1 : List UInt8) = s.2.1)))
      bif t2 then
       some (1, ())
      else
       some (0, ())
def jV (s : ac) : Option (Int × Unit) :=
 bif decide ((s.1 : List UInt8) = s.2.1) then
  some (0, ())
 else
  let t0 := decide ((s.1 : List UInt8) = [])
  bif t0 then
   some (1, ())
  else
   let t1 := decide ((s.2.1 : List UInt8) = [])
   bif t1 then
    some ((-1 : Int), ())
   else
    match gm (s.1, s.2.1, ()) with
    | none => none
    | some r2 =>
     some (r2.1, ())
def bc (s : (List (List UInt8)) × List UInt8 × Int × Unit) : Option (((List (List UInt8)) × List UInt8 × Int × Unit) ⊕ ((List UInt8 × Unit) ⊕ Unit)) :=
 let t0 := (decide (s.2.2.1 < ((List.length s.1) : Int)))
 bif t0 then
  bif decide (0 <= s.2.2.1) && decide (s.2.2.1 < (List.length s.1 : Int)) then
   let t1 := (List.getD s.1 (Int.toNat s.2.2.1) [])
   match jV (t1, s.2.1, ()) with
   | none => none
   | some r2 =>
    bif decide (r2.1 < 0) then
     bif decide (0 <= s.2.2.1) && decide (s.2.2.1 < (List.length s.1 : Int)) then
      let t3 := (List.getD s.1 (Int.toNat s.2.2.1) [])
      some (.inl (s.1, t3, (IntKind.i64.wrap (s.2.2.1 + 1)), ()))
     else none
    else
     some (.inl (s.1, s.2.1, (IntKind.i64.wrap (s.2.2.1 + 1)), ()))
  else none
 else
  some (.inr (.inl (s.2.1, ())))
def cO := aR bc
def dA (s : (List (List UInt8)) × Unit) : Option (List UInt8 × Unit) :=
 let t0 := (decide ((((List.length s.1) : Int) : Int) < 1))
 bif t0 then
  none
 else
  bif decide ((0 : Int) < (List.length s.1 : Int)) then
   match cO (s.1, (List.getD s.1 0 []), 1, ()) with
   | none => none
   | some (.inl z1) =>
    some (z1.1, ())
   | some (.inr z1) =>
    none
  else none
def vh (s : (List (List UInt8)) × Unit) : Option (List UInt8 × Unit) :=
 match dA (s.1, ()) with
 | none => none
 | some r0 =>
  some (r0.1, ())
def fV (s : ac × Unit) : Option (Bool × Unit) :=
 let t0 := (!decide ((s.1.2.1 : List UInt8) = []))
 bif t0 then
  let t1 := (Op.bytesLess s.1.2.1 s.1.1 || decide ((s.1.2.1 : List UInt8) = s.1.1))
  some (t1, ())
 else
  some (false, ())
def pG (s : ac × ac × Unit) : Option (ac × Unit) :=
 let t0 : List UInt8 := (bif !(Op.bytesLess s.1.1 s.2.1.1) then s.1.1 else s.2.1.1)
 match vh (([s.1.2.1, s.2.1.2.1] : List (List UInt8)), ()) with
 | none => none
 | some r1 =>
  match fV ((t0, (r1.1, ())), ()) with
  | none => none
  | some r2 =>
   bif r2.1 then
    some ((([97] : List UInt8), (([97] : List UInt8), ())), ())
   else
    some ((t0, (r1.1, ())), ())
def zN (s : Rl) : Option (Rl ⊕ ((List UInt8 × ac × List ac × Unit) ⊕ Unit)) :=
 bif decide (s.2.2.2.1 < s.2.2.1) then
  bif decide (0 <= s.2.2.2.1) && decide (s.2.2.2.1 < (List.length s.2.1 : Int)) then
   let t0 := (List.getD s.2.1 (Int.toNat s.2.2.2.1) [])
   match pG (s.2.2.2.2.1, (s.1, (t0, ())), ()) with
   | none => none
   | some r1 =>
    bif (decide ((List.length s.2.2.2.2.2.1 + List.length ([r1.1] : List ac)) * 32 <= ai)) then
     let t2 : List ac := (s.2.2.2.2.2.1 ++ ([r1.1] : List ac))
     let t3 := IntKind.i64.wrap (s.2.2.2.1 + 1)
     some (.inl (t0, s.2.1, s.2.2.1, t3, s.2.2.2.2.1, t2, ()))
    else none
  else none
 else
  some (.inr (.inl (s.1, s.2.2.2.2.1, s.2.2.2.2.2.1, ())))
def zP := aR zN
def span_Parts (s : ac × (List (List UInt8)) × Unit) : Option (List ac × Unit) :=
 match zP ([], s.2.1, ((List.length s.2.1) : Int), 0, s.1, [], ()) with
 | none => none
 | some (.inl z0) =>
  match pG (z0.2.1, (z0.1, ([], ())), ()) with
  | none => none
  | some r1 =>
   bif (decide ((List.length z0.2.2.1 + List.length ([r1.1] : List ac)) * 32 <= ai)) then
    let t2 : List ac := (z0.2.2.1 ++ ([r1.1] : List ac))
    some (t2, ())
   else none
 | some (.inr z0) =>
  none
def kR (s : api_Node × ac × Unit) : Option (List ac × Unit) :=
 let t0 := (decide ((((List.length s.1.2.2.1) : Int) : Int) = 0))
 bif t0 then
  some ([], ())
 else
  match span_Parts (s.2.1, s.1.2.1, ()) with
  | none => none
  | some r1 =>
   some (r1.1, ())
def eL (s : List ae × Unit) : Option (List ae × Unit) := bif (decide ((List.length ([] : List ae) + List.length s.1) * 112 <= ai)) then some (s.1, ()) else none
def ol (s : List UInt8 × Unit) : Option (ac × Unit) :=
 bif decide (List.length s.1 + List.length ([0] : List UInt8) <= ai) then
  some ((s.1, ((s.1 ++ ([0] : List UInt8)), ())), ())
 else none
def qA (s : ae × Unit) : Option (List ac × Unit) :=
 match ol (s.1.2.1, ()) with
 | none => none
 | some r0 =>
  some (([r0.1] : List ac), ())
def qu (s : ae × Unit) : Option (List ac × Unit) :=
 match ol (s.1.2.1, ()) with
 | none => none
 | some r0 =>
  some (([r0.1] : List ac), ())
def oF (s : ae × Unit) : Option (List ac × Unit) :=
 some (([s.1.2.2.2.1] : List ac), ())
def rW (s : List UInt8 × Bool × List UInt8 × List UInt8 × List Int × Unit) : Option (Ry ⊕ (Ry ⊕ Unit)) :=
 bif s.2.1 then
  let t0 := (IntKind.i64.wrap (((List.length s.2.2.2.2.1) : Int) - 1))
  bif decide ((0 : Int) <= t0) && decide (t0 <= (List.length s.2.2.2.2.1 : Int)) then
   some (.inl (s.1, s.2.2.1, s.2.2.2.1, (List.take (Int.toNat t0) s.2.2.2.2.1), ()))
  else none
 else
  some (.inr (.inl (s.1, s.2.2.1, s.2.2.2.1, s.2.2.2.2.1, ())))

def xJ (s : Ry) : Option (Ry ⊕ (Ry ⊕ Unit)) :=
 let t0 := (decide ((((List.length s.2.2.2.1) : Int) : Int) > 0))
 bif t0 then
  let t1 := (IntKind.i64.wrap (((List.length s.2.2.2.1) : Int) - 1))
  bif decide (0 <= t1) && decide (t1 < (List.length s.2.2.2.1 : Int)) then
   let t2 := (List.getD s.2.2.2.1 (Int.toNat t1) 0)
   rW (s.1, (decide (t2 = 255)), s.2.1, s.2.2.1, s.2.2.2.1, ())
  else none
 else
  rW (s.1, false, s.2.1, s.2.2.1, s.2.2.2.1, ())
def xL := aR xJ
def span_Prefix (s : List UInt8 × Unit) : Option (ac × Unit) :=
 bif decide (List.length s.1 <= ai) then
  match xL (s.1, [], [], (cZ s.1), ()) with
  | none => none
  | some (.inl z0) =>
   let t1 := (decide ((((List.length z0.2.2.2.1) : Int) : Int) > 0))
   bif t1 then
    let t2 := (IntKind.i64.wrap (((List.length z0.2.2.2.1) : Int) - 1))
    bif decide (0 <= t2) && decide (t2 < (List.length z0.2.2.2.1 : Int)) then
     let t3 := (List.getD z0.2.2.2.1 (Int.toNat t2) 0)
     bif decide (0 <= t2) && decide (t2 < (List.length z0.2.2.2.1 : Int)) then
      let t4 := (List.set z0.2.2.2.1 (Int.toNat t2) (IntKind.u8.wrap (t3 + 1)))
      some ((z0.1, ((oi t4), ())), ())
     else none
    else none
   else
    some ((z0.1, ((oi z0.2.2.2.1), ())), ())
  | some (.inr z0) =>
   none
 else none
def oG (s : ae × Unit) : Option (List ac × Unit) :=
 match span_Prefix (s.1.2.2.2.2.1, ()) with
 | none => none
 | some r0 =>
  match span_Prefix (s.1.2.2.2.2.2.1, ()) with
  | none => none
  | some r1 =>
   some (([r0.1, r1.1] : List ac), ())
def ng (s : ae × Unit) : Option (List ac × Unit) :=
 match span_Prefix (s.1.2.2.2.2.2.1, ()) with
 | none => none
 | some r0 =>
  some (([r0.1] : List ac), ())
def nh (s : ae × Unit) : Option (List ac × Unit) :=
 some (([s.1.2.2.2.1] : List ac), ())
def fQ (s : ae × Unit) : Option (List ac × Unit) :=
 bif decide (s.1.1 = 1) then
  match qA (s.1, ()) with
  | none => none
  | some r0 =>
   some (r0.1, ())
 else
  bif decide (s.1.1 = 2) then
   match qu (s.1, ()) with
   | none => none
   | some r0 =>
    some (r0.1, ())
  else
   bif decide (s.1.1 = 3) then
    match oF (s.1, ()) with
    | none => none
    | some r0 =>
     some (r0.1, ())
   else
    bif decide (s.1.1 = 4) then
     match oG (s.1, ()) with
     | none => none
     | some r0 =>
      some (r0.1, ())
    else
     bif decide (s.1.1 = 5) then
      match ng (s.1, ()) with
      | none => none
      | some r0 =>
       some (r0.1, ())
     else
      bif decide (s.1.1 = 6) then
       match nh (s.1, ()) with
       | none => none
       | some r0 =>
        some (r0.1, ())
      else
       some ([], ())
def lV (s : ac × ac × Unit) : Option (Bool × ac × Unit) :=
 match pG (s.1, s.2.1, ()) with
 | none => none
 | some r0 =>
  match fV (r0.1, ()) with
  | none => none
  | some r1 =>
   some ((!r1.1), s.2.1, ())
def bp (s : Int × Int × List ac × ac × Unit) : Option ((Int × Int × List ac × ac × Unit) ⊕ ((Int × List ac × ac × Unit) ⊕ (List ac × ac × Unit))) :=
 bif decide (s.2.1 < s.1) then
  bif decide (0 <= s.2.1) && decide (s.2.1 < (List.length s.2.2.1 : Int)) then
   let t0 := (List.getD s.2.2.1 (Int.toNat s.2.1) ([], ([], ())))
   match lV (t0, s.2.2.2.1, ()) with
   | none => none
   | some r1 =>
    bif r1.1 then
     some (.inr (.inl (s.2.1, s.2.2.1, r1.2.1, ())))
    else
     some (.inl (s.1, (IntKind.i64.wrap (s.2.1 + 1)), s.2.2.1, r1.2.1, ()))
  else none
 else
  some (.inr (.inr (s.2.2.1, s.2.2.2.1, ())))
def cz := aR bp
def bV (s : List ac × ac × Unit) : Option (Int × List ac × ac × Unit) :=
 match cz (((List.length s.1) : Int), 0, s.1, s.2.1, ()) with
 | none => none
 | some (.inl z0) =>
  some (z0.1, z0.2.1, z0.2.2.1, ())
 | some (.inr z0) =>
  some ((-1 : Int), z0.1, z0.2.1, ())
def bm (s : List ac × ac × Unit) : Option (Bool × List ac × ac × Unit) :=
 match bV (s.1, s.2.1, ()) with
 | none => none
 | some r0 =>
  some ((decide (r0.1 >= 0)), r0.2.1, r0.2.2.1, ())
def iI (s : ae × ac × Unit) : Option (Bool × ac × Unit) :=
 match fQ (s.1, ()) with
 | none => none
 | some r0 =>
  match bm (r0.1, s.2.1, ()) with
  | none => none
  | some r1 =>
   some ((!r1.1), r1.2.2.1, ())
def bw (s : RR) : Option (RR ⊕ ((Int × List ae × ac × Unit) ⊕ (List ae × ac × Unit))) :=
 bif decide (s.2.1 < s.1) then
  bif decide (0 <= s.2.1) && decide (s.2.1 < (List.length s.2.2.1 : Int)) then
   let t0 := (List.getD s.2.2.1 (Int.toNat s.2.1) (0, ([], ([], (([], ([], ())), ([], ([], (0, ()))))))))
   match iI (t0, s.2.2.2.1, ()) with
   | none => none
   | some r1 =>
    bif r1.1 then
     some (.inr (.inl (s.2.1, s.2.2.1, r1.2.1, ())))
    else
     some (.inl (s.1, (IntKind.i64.wrap (s.2.1 + 1)), s.2.2.1, r1.2.1, ()))
  else none
 else
  some (.inr (.inr (s.2.2.1, s.2.2.2.1, ())))
def cN := aR bw
def bn (s : List ae × ac × Unit) : Option (Int × List ae × ac × Unit) :=
 match cN (((List.length s.1) : Int), 0, s.1, s.2.1, ()) with
 | none => none
 | some (.inl z0) =>
  some (z0.1, z0.2.1, z0.2.2.1, ())
 | some (.inr z0) =>
  some ((-1 : Int), z0.1, z0.2.1, ())
def aZ (s : RR) : Option (RR ⊕ ((Int × List ae × ac × Unit) ⊕ Unit)) :=
 let t0 := (decide (s.2.1 < ((List.length s.2.2.1) : Int)))
 bif t0 then
  bif decide (0 <= s.2.1) && decide (s.2.1 < (List.length s.2.2.1 : Int)) then
   let t1 := (List.getD s.2.2.1 (Int.toNat s.2.1) (0, ([], ([], (([], ([], ())), ([], ([], (0, ()))))))))
   match iI (t1, s.2.2.2.1, ()) with
   | none => none
   | some r2 =>
    bif !r2.1 then
     bif decide (0 <= s.1) && decide (s.1 < (List.length s.2.2.1 : Int)) then
      some (.inl ((IntKind.i64.wrap (s.1 + 1)), (IntKind.i64.wrap (s.2.1 + 1)), (List.set s.2.2.1 (Int.toNat s.1) t1), r2.2.1, ()))
     else none
    else
     some (.inl (s.1, (IntKind.i64.wrap (s.2.1 + 1)), s.2.2.1, r2.2.1, ()))
  else none
 else
  some (.inr (.inl (s.1, s.2.2.1, s.2.2.2.1, ())))
def cC := aR aZ
def bD (s : List ae × ac × Unit) : Option (ac × List ae × Unit) :=
 match bn (s.1, s.2.1, ()) with
 | none => none
 | some r0 =>
  bif decide (r0.1 = (-1 : Int)) then
   some (r0.2.2.1, r0.2.1, ())
  else
   match cC (r0.1, (IntKind.i64.wrap (r0.1 + 1)), r0.2.1, r0.2.2.1, ()) with
   | none => none
   | some (.inl z1) =>
    bif (decide (0 <= z1.1) && decide (z1.1 <= (List.length z1.2.1 : Int)) && decide (((List.length z1.2.1 : Int) : Int) <= (List.length z1.2.1 : Int))) then
     let t2 := (List.take (Int.toNat z1.1) z1.2.1 ++ List.replicate ((Int.toNat (List.length z1.2.1 : Int)) - (Int.toNat z1.1)) ((0 : Int), (([] : List UInt8), (([] : List UInt8), ((([] : List UInt8), (([] : List UInt8), ())), (([] : List UInt8), (([] : List UInt8), ((0 : Int), ()))))))) ++ List.drop ((Int.toNat z1.1) + ((Int.toNat (List.length z1.2.1 : Int)) - (Int.toNat z1.1))) z1.2.1)
     bif decide ((0 : Int) <= z1.1) && decide (z1.1 <= (List.length t2 : Int)) then
      some (z1.2.2.1, (List.take (Int.toNat z1.1) t2), ())
     else none
    else none
   | some (.inr z1) =>
    none
def fA (cost_WeightC1_r : RO -> Option (Int × am × Int × Unit)) (s : Rt) : Option (Rt ⊕ ((Int × am × Int × Unit) ⊕ (am × Int × Unit))) :=
 bif decide (s.2.1 < s.1) then
  bif decide (0 <= s.2.1) && decide (s.2.1 < (List.length s.2.2.2.2.2.2.1 : Int)) then
   let t0 := (List.getD s.2.2.2.2.2.2.1 (Int.toNat s.2.1) ([], ([], ())))
   match eL (s.2.2.2.2.2.1, ()) with
   | none => none
   | some r1 =>
    match bD (r1.1, t0, ()) with
    | none => none
    | some r2 =>
     let t3 := (IntKind.i64.wrap (s.2.2.2.1 + ((List.length r2.2.1) : Int)))
     bif decide (0 <= s.2.1) && decide (s.2.1 < (List.length s.2.2.2.2.1.2.2.1 : Int)) then
      let t4 := (List.getD s.2.2.2.2.1.2.2.1 (Int.toNat s.2.1) 0)
      match cost_WeightC1_r (t4, r2.1, r2.2.1, s.2.2.1, t3, ()) with
      | none => none
      | some r5 =>
       bif (!decide (r5.1 = 0)) then
        some (.inr (.inl (r5.1, r5.2.1, r5.2.2.1, ())))
       else
        some (.inl (s.1, (IntKind.i64.wrap (s.2.1 + 1)), r5.2.1, r5.2.2.1, s.2.2.2.2.1, s.2.2.2.2.2.1, s.2.2.2.2.2.2.1, ()))
     else none
  else none
 else
  some (.inr (.inr (s.2.2.1, s.2.2.2.1, ())))
def fB (cost_WeightC1_r : RO -> Option (Int × am × Int × Unit)) (s : Rt) : Option ((Int × am × Int × Unit) ⊕ (am × Int × Unit)) := aR (fA cost_WeightC1_r) s
def bI (cost_WeightC1_r : RO -> Option (Int × am × Int × Unit)) (s : RO) : Option (Int × am × Int × Unit) :=
 match eV (s.2.2.2.1.1, s.1, ()) with
 | none => none
 | some r0 =>
  bif (!decide (r0.2.1 = 0)) then
   some (r0.2.1, s.2.2.2.1, s.2.2.2.2.1, ())
  else
   match cI (([s.2.2.1, r0.1.2.2.2.2.1] : List (List ae)), ()) with
   | none => none
   | some r1 =>
    match kR (r0.1, s.2.1, ()) with
    | none => none
    | some r2 =>
     match fB cost_WeightC1_r (((List.length r2.1) : Int), 0, s.2.2.2.1, s.2.2.2.2.1, r0.1, r1.1, r2.1, ()) with
     | none => none
     | some (.inl z3) =>
      some (z3.1, z3.2.1, z3.2.2.1, ())
     | some (.inr z3) =>
      some (0, z3.1, z3.2.1, ())
def aV : Nat -> RO -> Option (Int × am × Int × Unit)
 | 0, _ => none
 | n + 1, s => bI (aV n) s
def nE (s : RO) : Option (Int × am × Int × Unit) := aV abc s
def eh (s : am × Unit) : Option bF :=
 match nE (s.1.2.1, ([], ([], ())), [], s.1, 0, ()) with
 | none => none
 | some r0 =>
  bif (!decide (r0.1 = 0)) then
   some (0, r0.1, ())
  else
   some (r0.2.2.1, 0, ())
def tZ (s : api_Node × Unit) : Option (Bool × Unit) :=
 let t0 := (decide ((((List.length s.1.2.2.1) : Int) : Int) = 0))
 some (t0, ())
def dN (s : ac) : Option (Int × Unit) := some ((fun a b => Lib.compareBytes a b) s.1 s.2.1, ())
def oO (s : ac) : Option (Int × Unit) :=
 match dN (s.1, s.2.1, ()) with
 | none => none
 | some r0 =>
  some (r0.1, ())
def kA (s : aa × List UInt8 × Unit) : Option (Int × Unit) :=
 match oO (s.1.1, s.2.1, ()) with
 | none => none
 | some r0 =>
  some (r0.1, ())
def aY (s : List aa × List UInt8 × Int × Int × Int × Unit) : Option ((List aa × List UInt8 × Int × Int × Int × Unit) ⊕ ((List aa × List UInt8 × Int × Int × Unit) ⊕ Unit)) :=
 let t0 := decide (s.2.2.2.1 < s.2.2.2.2.1)
 bif t0 then
  let t1 := IntKind.i64.wrap (s.2.2.2.1 + s.2.2.2.2.1)
  let t2 : Int := (Int.fdiv (IntKind.u64.wrap t1) (2 ^ (min (Int.toNat 1) IntKind.u64.bits)))
  bif (decide (0 <= (IntKind.i64.wrap t2)) && decide (((IntKind.i64.wrap t2) : Int) < (List.length s.1 : Int))) then
   let t3 := (List.getD s.1 (Int.toNat (IntKind.i64.wrap t2)) ([], ([], (0, ()))))
   match kA (t3, s.2.1, ()) with
   | none => none
   | some r4 =>
    bif decide (r4.1 < 0) then
     let t5 := IntKind.i64.wrap ((IntKind.i64.wrap t2) + 1)
     some (.inl (s.1, s.2.1, s.2.2.1, t5, s.2.2.2.2.1, ()))
    else
     some (.inl (s.1, s.2.1, s.2.2.1, s.2.2.2.1, (IntKind.i64.wrap t2), ()))
  else none
 else
  some (.inr (.inl (s.1, s.2.1, s.2.2.1, s.2.2.2.1, ())))
def b9 := aR aY
def bd (s : RX) : Option R4 :=
 match b9 (s.1, s.2.1, ((List.length s.1) : Int), 0, ((List.length s.1) : Int), ()) with
 | none => none
 | some (.inl z0) =>
  bif decide (z0.2.2.2.1 < z0.2.2.1) then
   bif decide (0 <= z0.2.2.2.1) && decide (z0.2.2.2.1 < (List.length z0.1 : Int)) then
    let t1 := (List.getD z0.1 (Int.toNat z0.2.2.2.1) ([], ([], (0, ()))))
    match kA (t1, z0.2.1, ()) with
    | none => none
    | some r2 =>
     some (z0.2.2.2.1, (decide (r2.1 = 0)), ())
   else none
  else
   some (z0.2.2.2.1, false, ())
 | some (.inr z0) =>
  none
def jA (s : RX) : Option R4 :=
 match bd (s.1, s.2.1, ()) with
 | none => none
 | some r0 =>
  some (r0.1, r0.2.1, ())
def afQ (s : RX) : Option (aa × Bool × Unit) :=
 match jA (s.1, s.2.1, ()) with
 | none => none
 | some r0 =>
  bif r0.2.1 then
   bif decide (0 <= r0.1) && decide (r0.1 < (List.length s.1 : Int)) then
    let t1 := (List.getD s.1 (Int.toNat r0.1) ([], ([], (0, ()))))
    some (t1, true, ())
   else none
  else
   some (([], ([], (0, ()))), false, ())
def gN (s : List ae × Unit) : Option (List ae × Unit) :=
 some (s.1, ())
def tW (s : ac × List UInt8 × Unit) : Option (Bool × Unit) :=
 bif (!(Op.bytesLess s.2.1 s.1.1)) then
  let t0 := decide ((s.1.2.1 : List UInt8) = [])
  bif !t0 then
   some ((Op.bytesLess s.2.1 s.1.2.1), ())
  else
   some (true, ())
 else
  some (false, ())
def xX (s : Int × Bool × Bool × List UInt8 × List UInt8 × Int × List UInt8 × Bool × Int × Unit) : Option (Bool × Bool × List UInt8 × List UInt8 × Int × List UInt8 × Bool × Int × Unit) :=
 bif !s.2.2.2.2.2.2.2.1 then
  some (s.2.1, s.2.2.1, s.2.2.2.1, s.2.2.2.2.1, s.2.2.2.2.2.1, s.2.2.2.2.2.2.1, true, s.1, ())
 else
  some (s.2.1, s.2.2.1, s.2.2.2.1, s.2.2.2.2.1, s.2.2.2.2.2.1, s.2.2.2.2.2.2.1, s.2.2.2.2.2.2.2.1, s.2.2.2.2.2.2.2.2.1, ())
def zW (s : Rh) : Option (Bool × Bool × Bool × List UInt8 × List UInt8 × Int × List UInt8 × Bool × Int × Unit) :=
 match tW (s.1.2.2.2.1, s.2.2.2.2.2.2.1, ()) with
 | none => none
 | some r0 =>
  bif r0.1 then
   match xX (s.1.2.2.2.2.2.2.1, s.2.1, s.2.2.1, s.2.2.2.1, s.2.2.2.2.1, s.2.2.2.2.2.1, s.2.2.2.2.2.2.1, s.2.2.2.2.2.2.2.1, s.2.2.2.2.2.2.2.2.1, ()) with
   | none => none
   | some r1 =>
    some (false, r1.1, r1.2.1, r1.2.2.1, r1.2.2.2.1, r1.2.2.2.2.1, r1.2.2.2.2.2.1, r1.2.2.2.2.2.2.1, r1.2.2.2.2.2.2.2.1, ())
  else
   some (false, s.2.1, s.2.2.1, s.2.2.2.1, s.2.2.2.2.1, s.2.2.2.2.2.1, s.2.2.2.2.2.2.1, s.2.2.2.2.2.2.2.1, s.2.2.2.2.2.2.2.2.1, ())
def aX (s : ac) : Option (Bool × Unit) :=
 let t0 := (decide ((((List.length s.1) : Int) : Int) >= ((List.length s.2.1) : Int)))
 bif t0 then
  bif (decide ((0 : Int) <= ((List.length s.2.1) : Int)) && decide ((((List.length s.2.1) : Int) : Int) <= (List.length s.1 : Int))) then
   let t1 := (List.drop 0 (List.take (Int.toNat ((List.length s.2.1) : Int)) s.1))
   some ((decide ((t1 : List UInt8) = s.2.1)), ())
  else none
 else
  some (false, ())
def dO (s : ac) : Option RY :=
 match aX (s.1, s.2.1, ()) with
 | none => none
 | some r0 =>
  bif !r0.1 then
   some (s.1, false, ())
  else
   bif (decide (0 <= ((List.length s.2.1) : Int)) && decide ((((List.length s.2.1) : Int) : Int) <= (List.length s.1 : Int)) && decide (((List.length s.1 : Int) : Int) <= (List.length s.1 : Int))) then
    let t1 := (List.drop (Int.toNat ((List.length s.2.1) : Int)) (List.take (Int.toNat (List.length s.1 : Int)) s.1))
    some (t1, true, ())
   else none
def ji (s : ac) : Option RY :=
 match dO (s.1, s.2.1, ()) with
 | none => none
 | some r0 =>
  some (r0.1, r0.2.1, ())
def rc (s : List UInt8 × List UInt8 × List UInt8 × Unit) : Option RY :=
 match ji (s.1, s.2.1, ()) with
 | none => none
 | some r0 =>
  bif !r0.2.1 then
   some ([], false, ())
  else
   bif decide (List.length s.2.2.1 + List.length r0.1 <= ai) then
    some ((s.2.2.1 ++ r0.1), true, ())
   else none
def aa7 (s : Rh) : Option (Bool × Bool × Bool × List UInt8 × List UInt8 × Int × List UInt8 × Bool × Int × Unit) :=
 match rc (s.2.2.2.2.2.2.1, s.1.2.2.2.2.2.1, s.1.2.2.2.2.1, ()) with
 | none => none
 | some r0 =>
  bif r0.2.1 then
   some (false, s.2.1, s.2.2.1, s.2.2.2.1, s.2.2.2.2.1, s.2.2.2.2.2.1, r0.1, s.2.2.2.2.2.2.2.1, s.2.2.2.2.2.2.2.2.1, ())
  else
   some (false, s.2.1, s.2.2.1, s.2.2.2.1, s.2.2.2.2.1, s.2.2.2.2.2.1, s.2.2.2.2.2.2.1, s.2.2.2.2.2.2.2.1, s.2.2.2.2.2.2.2.2.1, ())
def gF (s : ac) : Option (Bool × Unit) :=
 match aX (s.1, s.2.1, ()) with
 | none => none
 | some r0 =>
  some (r0.1, ())
def zV (s : Rh) : Option (Bool × Bool × Bool × List UInt8 × List UInt8 × Int × List UInt8 × Bool × Int × Unit) :=
 match gF (s.2.2.2.2.2.2.1, s.1.2.2.2.2.1, ()) with
 | none => none
 | some r0 =>
  bif !r0.1 then
   match aa7 (s.1, s.2.1, s.2.2.1, s.2.2.2.1, s.2.2.2.2.1, s.2.2.2.2.2.1, s.2.2.2.2.2.2.1, s.2.2.2.2.2.2.2.1, s.2.2.2.2.2.2.2.2.1, ()) with
   | none => none
   | some r1 =>
    some (r1.1, r1.2.1, r1.2.2.1, r1.2.2.2.1, r1.2.2.2.2.1, r1.2.2.2.2.2.1, r1.2.2.2.2.2.2.1, r1.2.2.2.2.2.2.2.1, r1.2.2.2.2.2.2.2.2.1, ())
  else
   some (true, s.2.1, s.2.2.1, s.2.2.2.1, s.2.2.2.2.1, s.2.2.2.2.2.1, s.2.2.2.2.2.2.1, s.2.2.2.2.2.2.2.1, s.2.2.2.2.2.2.2.2.1, ())
def zU (s : Rh) : Option (Bool × Bool × Bool × List UInt8 × List UInt8 × Int × List UInt8 × Bool × Int × Unit) :=
 match tW (s.1.2.2.2.1, s.2.2.2.2.2.2.1, ()) with
 | none => none
 | some r0 =>
  some (r0.1, s.2.1, s.2.2.1, s.2.2.2.1, s.2.2.2.2.1, s.2.2.2.2.2.1, s.2.2.2.2.2.2.1, s.2.2.2.2.2.2.2.1, s.2.2.2.2.2.2.2.2.1, ())
def zS (s : Rh) : Option (Bool × Bool × Bool × List UInt8 × List UInt8 × Int × List UInt8 × Bool × Int × Unit) :=
 let t0 := decide ((s.1.2.1 : List UInt8) = s.2.2.2.2.2.2.1)
 some (t0, s.2.1, s.2.2.1, s.2.2.2.1, s.2.2.2.2.1, s.2.2.2.2.2.1, s.2.2.2.2.2.2.1, s.2.2.2.2.2.2.2.1, s.2.2.2.2.2.2.2.2.1, ())
def zR (s : Rh) : Option (Bool × Bool × Bool × List UInt8 × List UInt8 × Int × List UInt8 × Bool × Int × Unit) :=
 let t0 := (!decide ((s.1.2.1 : List UInt8) = s.2.2.2.2.2.2.1))
 bif t0 then
  some (false, s.2.1, s.2.2.1, s.2.2.2.1, s.2.2.2.2.1, s.2.2.2.2.2.1, s.2.2.2.2.2.2.1, s.2.2.2.2.2.2.2.1, s.2.2.2.2.2.2.2.2.1, ())
 else
  match xX (s.1.2.2.2.2.2.2.1, s.2.1, s.2.2.1, s.2.2.2.1, s.2.2.2.2.1, s.2.2.2.2.2.1, s.2.2.2.2.2.2.1, s.2.2.2.2.2.2.2.1, s.2.2.2.2.2.2.2.2.1, ()) with
  | none => none
  | some r1 =>
   some (true, r1.1, true, r1.2.2.1, s.1.2.2.1, r1.2.2.2.2.2.2.2.1, r1.2.2.2.2.2.1, r1.2.2.2.2.2.2.1, r1.2.2.2.2.2.2.2.1, ())
def dE (s : Q9) : Option Q9 :=
 bif s.1 then
  bif decide (s.2.1 = -1) then
   some (true, 0, s.2.2.1, s.2.2.2.1, s.2.2.2.2.1, s.2.2.2.2.2.1, s.2.2.2.2.2.2.1, s.2.2.2.2.2.2.2.1, s.2.2.2.2.2.2.2.2.1, s.2.2.2.2.2.2.2.2.2.1, s.2.2.2.2.2.2.2.2.2.2.1, s.2.2.2.2.2.2.2.2.2.2.2.1, s.2.2.2.2.2.2.2.2.2.2.2.2.1, s.2.2.2.2.2.2.2.2.2.2.2.2.2.1, s.2.2.2.2.2.2.2.2.2.2.2.2.2.2.1, s.2.2.2.2.2.2.2.2.2.2.2.2.2.2.2.1, s.2.2.2.2.2.2.2.2.2.2.2.2.2.2.2.2.1, s.2.2.2.2.2.2.2.2.2.2.2.2.2.2.2.2.2.1, ())
  else none
 else
  bif s.2.2.2.1 then
   bif decide (s.2.1 = -1) then
    some (false, 1, s.2.2.1, s.2.2.2.1, s.2.2.2.2.1, s.2.2.2.2.2.1, s.2.2.2.2.2.2.1, s.2.2.2.2.2.2.2.1, s.2.2.2.2.2.2.2.2.1, s.2.2.2.2.2.2.2.2.2.1, true, true, s.2.2.2.2.1, s.2.2.2.2.2.1, s.2.2.2.2.2.2.1, [], false, 0, ())
   else none
  else
   bif decide (s.2.1 = -1) then
    some (false, 1, s.2.2.1, s.2.2.2.1, s.2.2.2.2.1, s.2.2.2.2.2.1, s.2.2.2.2.2.2.1, s.2.2.2.2.2.2.2.1, s.2.2.2.2.2.2.2.2.1, s.2.2.2.2.2.2.2.2.2.1, true, false, [], [], 0, [], false, 0, ())
   else none

def n7 (s : Int × ae × Int × Bool × Bool × List UInt8 × List UInt8 × Int × List UInt8 × Bool × Int × Bool × Bool × List UInt8 × List UInt8 × Int × List UInt8 × Bool × Int × Unit) : Option Q9 :=
 bif decide (s.2.2.1 = 0) then
  bif decide (s.2.2.1 = 0) then
   bif decide (0 <= s.2.1.1) && decide (s.2.1.1 < 7) then
    bif (Nat.beq (Int.toNat s.2.1.1) 6) then
     match zW (s.2.1, s.2.2.2.1, s.2.2.2.2.1, s.2.2.2.2.2.1, s.2.2.2.2.2.2.1, s.2.2.2.2.2.2.2.1, s.2.2.2.2.2.2.2.2.1, s.2.2.2.2.2.2.2.2.2.1, s.2.2.2.2.2.2.2.2.2.2.1, ()) with
     | none => none
     | some r0 =>
      dE ((!r0.1), (-1 : Int), r0.2.1, r0.2.2.1, r0.2.2.2.1, r0.2.2.2.2.1, r0.2.2.2.2.2.1, r0.2.2.2.2.2.2.1, r0.2.2.2.2.2.2.2.1, r0.2.2.2.2.2.2.2.2.1, s.2.2.2.2.2.2.2.2.2.2.2.1, s.2.2.2.2.2.2.2.2.2.2.2.2.1, s.2.2.2.2.2.2.2.2.2.2.2.2.2.1, s.2.2.2.2.2.2.2.2.2.2.2.2.2.2.1, s.2.2.2.2.2.2.2.2.2.2.2.2.2.2.2.1, s.2.2.2.2.2.2.2.2.2.2.2.2.2.2.2.2.1, s.2.2.2.2.2.2.2.2.2.2.2.2.2.2.2.2.2.1, s.2.2.2.2.2.2.2.2.2.2.2.2.2.2.2.2.2.2.1, ())
    else
     bif (Nat.beq (Int.toNat s.2.1.1) 5) then
      match aa7 (s.2.1, s.2.2.2.1, s.2.2.2.2.1, s.2.2.2.2.2.1, s.2.2.2.2.2.2.1, s.2.2.2.2.2.2.2.1, s.2.2.2.2.2.2.2.2.1, s.2.2.2.2.2.2.2.2.2.1, s.2.2.2.2.2.2.2.2.2.2.1, ()) with
      | none => none
      | some r0 =>
       dE ((!r0.1), (-1 : Int), r0.2.1, r0.2.2.1, r0.2.2.2.1, r0.2.2.2.2.1, r0.2.2.2.2.2.1, r0.2.2.2.2.2.2.1, r0.2.2.2.2.2.2.2.1, r0.2.2.2.2.2.2.2.2.1, s.2.2.2.2.2.2.2.2.2.2.2.1, s.2.2.2.2.2.2.2.2.2.2.2.2.1, s.2.2.2.2.2.2.2.2.2.2.2.2.2.1, s.2.2.2.2.2.2.2.2.2.2.2.2.2.2.1, s.2.2.2.2.2.2.2.2.2.2.2.2.2.2.2.1, s.2.2.2.2.2.2.2.2.2.2.2.2.2.2.2.2.1, s.2.2.2.2.2.2.2.2.2.2.2.2.2.2.2.2.2.1, s.2.2.2.2.2.2.2.2.2.2.2.2.2.2.2.2.2.2.1, ())
     else
      bif (Nat.beq (Int.toNat s.2.1.1) 4) then
       match zV (s.2.1, s.2.2.2.1, s.2.2.2.2.1, s.2.2.2.2.2.1, s.2.2.2.2.2.2.1, s.2.2.2.2.2.2.2.1, s.2.2.2.2.2.2.2.2.1, s.2.2.2.2.2.2.2.2.2.1, s.2.2.2.2.2.2.2.2.2.2.1, ()) with
       | none => none
       | some r0 =>
        dE ((!r0.1), (-1 : Int), r0.2.1, r0.2.2.1, r0.2.2.2.1, r0.2.2.2.2.1, r0.2.2.2.2.2.1, r0.2.2.2.2.2.2.1, r0.2.2.2.2.2.2.2.1, r0.2.2.2.2.2.2.2.2.1, s.2.2.2.2.2.2.2.2.2.2.2.1, s.2.2.2.2.2.2.2.2.2.2.2.2.1, s.2.2.2.2.2.2.2.2.2.2.2.2.2.1, s.2.2.2.2.2.2.2.2.2.2.2.2.2.2.1, s.2.2.2.2.2.2.2.2.2.2.2.2.2.2.2.1, s.2.2.2.2.2.2.2.2.2.2.2.2.2.2.2.2.1, s.2.2.2.2.2.2.2.2.2.2.2.2.2.2.2.2.2.1, s.2.2.2.2.2.2.2.2.2.2.2.2.2.2.2.2.2.2.1, ())
      else
       bif (Nat.beq (Int.toNat s.2.1.1) 3) then
        match zU (s.2.1, s.2.2.2.1, s.2.2.2.2.1, s.2.2.2.2.2.1, s.2.2.2.2.2.2.1, s.2.2.2.2.2.2.2.1, s.2.2.2.2.2.2.2.2.1, s.2.2.2.2.2.2.2.2.2.1, s.2.2.2.2.2.2.2.2.2.2.1, ()) with
        | none => none
        | some r0 =>
         dE ((!r0.1), (-1 : Int), r0.2.1, r0.2.2.1, r0.2.2.2.1, r0.2.2.2.2.1, r0.2.2.2.2.2.1, r0.2.2.2.2.2.2.1, r0.2.2.2.2.2.2.2.1, r0.2.2.2.2.2.2.2.2.1, s.2.2.2.2.2.2.2.2.2.2.2.1, s.2.2.2.2.2.2.2.2.2.2.2.2.1, s.2.2.2.2.2.2.2.2.2.2.2.2.2.1, s.2.2.2.2.2.2.2.2.2.2.2.2.2.2.1, s.2.2.2.2.2.2.2.2.2.2.2.2.2.2.2.1, s.2.2.2.2.2.2.2.2.2.2.2.2.2.2.2.2.1, s.2.2.2.2.2.2.2.2.2.2.2.2.2.2.2.2.2.1, s.2.2.2.2.2.2.2.2.2.2.2.2.2.2.2.2.2.2.1, ())
       else
        bif (Nat.beq (Int.toNat s.2.1.1) 2) then
         match zS (s.2.1, s.2.2.2.1, s.2.2.2.2.1, s.2.2.2.2.2.1, s.2.2.2.2.2.2.1, s.2.2.2.2.2.2.2.1, s.2.2.2.2.2.2.2.2.1, s.2.2.2.2.2.2.2.2.2.1, s.2.2.2.2.2.2.2.2.2.2.1, ()) with
         | none => none
         | some r0 =>
          dE ((!r0.1), (-1 : Int), r0.2.1, r0.2.2.1, r0.2.2.2.1, r0.2.2.2.2.1, r0.2.2.2.2.2.1, r0.2.2.2.2.2.2.1, r0.2.2.2.2.2.2.2.1, r0.2.2.2.2.2.2.2.2.1, s.2.2.2.2.2.2.2.2.2.2.2.1, s.2.2.2.2.2.2.2.2.2.2.2.2.1, s.2.2.2.2.2.2.2.2.2.2.2.2.2.1, s.2.2.2.2.2.2.2.2.2.2.2.2.2.2.1, s.2.2.2.2.2.2.2.2.2.2.2.2.2.2.2.1, s.2.2.2.2.2.2.2.2.2.2.2.2.2.2.2.2.1, s.2.2.2.2.2.2.2.2.2.2.2.2.2.2.2.2.2.1, s.2.2.2.2.2.2.2.2.2.2.2.2.2.2.2.2.2.2.1, ())
        else
         bif (Nat.beq (Int.toNat s.2.1.1) 1) then
          match zR (s.2.1, s.2.2.2.1, s.2.2.2.2.1, s.2.2.2.2.2.1, s.2.2.2.2.2.2.1, s.2.2.2.2.2.2.2.1, s.2.2.2.2.2.2.2.2.1, s.2.2.2.2.2.2.2.2.2.1, s.2.2.2.2.2.2.2.2.2.2.1, ()) with
          | none => none
          | some r0 =>
           dE ((!r0.1), (-1 : Int), r0.2.1, r0.2.2.1, r0.2.2.2.1, r0.2.2.2.2.1, r0.2.2.2.2.2.1, r0.2.2.2.2.2.2.1, r0.2.2.2.2.2.2.2.1, r0.2.2.2.2.2.2.2.2.1, s.2.2.2.2.2.2.2.2.2.2.2.1, s.2.2.2.2.2.2.2.2.2.2.2.2.1, s.2.2.2.2.2.2.2.2.2.2.2.2.2.1, s.2.2.2.2.2.2.2.2.2.2.2.2.2.2.1, s.2.2.2.2.2.2.2.2.2.2.2.2.2.2.2.1, s.2.2.2.2.2.2.2.2.2.2.2.2.2.2.2.2.1, s.2.2.2.2.2.2.2.2.2.2.2.2.2.2.2.2.2.1, s.2.2.2.2.2.2.2.2.2.2.2.2.2.2.2.2.2.2.1, ())
         else
          bif (Nat.beq (Int.toNat s.2.1.1) 0) then
           none
          else none
   else none
  else none
 else none
def eD (s : Q7) : Option (Q7 ⊕ (Q8 ⊕ Q8)) :=
 bif decide (s.1 >= 0) then
  bif decide (0 <= s.1) && decide (s.1 < (List.length s.2.2.1 : Int)) then
   let t0 := (List.getD s.2.2.1 (Int.toNat s.1) (0, ([], ([], (([], ([], ())), ([], ([], (0, ()))))))))
   match n7 (s.1, t0, s.2.1, s.2.2.2.1, s.2.2.2.2.1, s.2.2.2.2.2.1, s.2.2.2.2.2.2.1, s.2.2.2.2.2.2.2.1, s.2.2.2.2.2.2.2.2.1, s.2.2.2.2.2.2.2.2.2.1, s.2.2.2.2.2.2.2.2.2.2.1, s.2.2.2.2.2.2.2.2.2.2.2.1, s.2.2.2.2.2.2.2.2.2.2.2.2.1, s.2.2.2.2.2.2.2.2.2.2.2.2.2.1, s.2.2.2.2.2.2.2.2.2.2.2.2.2.2.1, s.2.2.2.2.2.2.2.2.2.2.2.2.2.2.2.1, s.2.2.2.2.2.2.2.2.2.2.2.2.2.2.2.2.1, s.2.2.2.2.2.2.2.2.2.2.2.2.2.2.2.2.2.1, s.2.2.2.2.2.2.2.2.2.2.2.2.2.2.2.2.2.2.1, ()) with
   | none => none
   | some r1 =>
    bif !r1.1 then
     some (.inr (.inl (r1.2.1, s.2.2.1, r1.2.2.1, r1.2.2.2.1, r1.2.2.2.2.1, r1.2.2.2.2.2.1, r1.2.2.2.2.2.2.1, r1.2.2.2.2.2.2.2.1, r1.2.2.2.2.2.2.2.2.1, r1.2.2.2.2.2.2.2.2.2.1, r1.2.2.2.2.2.2.2.2.2.2.1, r1.2.2.2.2.2.2.2.2.2.2.2.1, r1.2.2.2.2.2.2.2.2.2.2.2.2.1, r1.2.2.2.2.2.2.2.2.2.2.2.2.2.1, r1.2.2.2.2.2.2.2.2.2.2.2.2.2.2.1, r1.2.2.2.2.2.2.2.2.2.2.2.2.2.2.2.1, r1.2.2.2.2.2.2.2.2.2.2.2.2.2.2.2.2.1, r1.2.2.2.2.2.2.2.2.2.2.2.2.2.2.2.2.2.1, ())))
    else
     some (.inl ((IntKind.i64.wrap (s.1 - 1)), r1.2.1, s.2.2.1, r1.2.2.1, r1.2.2.2.1, r1.2.2.2.2.1, r1.2.2.2.2.2.1, r1.2.2.2.2.2.2.1, r1.2.2.2.2.2.2.2.1, r1.2.2.2.2.2.2.2.2.1, r1.2.2.2.2.2.2.2.2.2.1, r1.2.2.2.2.2.2.2.2.2.2.1, r1.2.2.2.2.2.2.2.2.2.2.2.1, r1.2.2.2.2.2.2.2.2.2.2.2.2.1, r1.2.2.2.2.2.2.2.2.2.2.2.2.2.1, r1.2.2.2.2.2.2.2.2.2.2.2.2.2.2.1, r1.2.2.2.2.2.2.2.2.2.2.2.2.2.2.2.1, r1.2.2.2.2.2.2.2.2.2.2.2.2.2.2.2.2.1, r1.2.2.2.2.2.2.2.2.2.2.2.2.2.2.2.2.2.1, ()))
  else none
 else
  some (.inr (.inr (s.2.1, s.2.2.1, s.2.2.2.1, s.2.2.2.2.1, s.2.2.2.2.2.1, s.2.2.2.2.2.2.1, s.2.2.2.2.2.2.2.1, s.2.2.2.2.2.2.2.2.1, s.2.2.2.2.2.2.2.2.2.1, s.2.2.2.2.2.2.2.2.2.2.1, s.2.2.2.2.2.2.2.2.2.2.2.1, s.2.2.2.2.2.2.2.2.2.2.2.2.1, s.2.2.2.2.2.2.2.2.2.2.2.2.2.1, s.2.2.2.2.2.2.2.2.2.2.2.2.2.2.1, s.2.2.2.2.2.2.2.2.2.2.2.2.2.2.2.1, s.2.2.2.2.2.2.2.2.2.2.2.2.2.2.2.2.1, s.2.2.2.2.2.2.2.2.2.2.2.2.2.2.2.2.2.1, s.2.2.2.2.2.2.2.2.2.2.2.2.2.2.2.2.2.2.1, ())))
def eG := aR eD
def fU (s : Q8) : Option Q8 :=
 let t0 := (IntKind.i64.wrap (((List.length s.2.1) : Int) - 1))
 match eG (t0, s.1, s.2.1, s.2.2.1, s.2.2.2.1, s.2.2.2.2.1, s.2.2.2.2.2.1, s.2.2.2.2.2.2.1, s.2.2.2.2.2.2.2.1, s.2.2.2.2.2.2.2.2.1, s.2.2.2.2.2.2.2.2.2.1, s.2.2.2.2.2.2.2.2.2.2.1, s.2.2.2.2.2.2.2.2.2.2.2.1, s.2.2.2.2.2.2.2.2.2.2.2.2.1, s.2.2.2.2.2.2.2.2.2.2.2.2.2.1, s.2.2.2.2.2.2.2.2.2.2.2.2.2.2.1, s.2.2.2.2.2.2.2.2.2.2.2.2.2.2.2.1, s.2.2.2.2.2.2.2.2.2.2.2.2.2.2.2.2.1, s.2.2.2.2.2.2.2.2.2.2.2.2.2.2.2.2.2.1, ()) with
 | none => none
 | some (.inl z1) =>
  some (z1.1, z1.2.1, z1.2.2.1, z1.2.2.2.1, z1.2.2.2.2.1, z1.2.2.2.2.2.1, z1.2.2.2.2.2.2.1, z1.2.2.2.2.2.2.2.1, z1.2.2.2.2.2.2.2.2.1, z1.2.2.2.2.2.2.2.2.2.1, z1.2.2.2.2.2.2.2.2.2.2.1, z1.2.2.2.2.2.2.2.2.2.2.2.1, z1.2.2.2.2.2.2.2.2.2.2.2.2.1, z1.2.2.2.2.2.2.2.2.2.2.2.2.2.1, z1.2.2.2.2.2.2.2.2.2.2.2.2.2.2.1, z1.2.2.2.2.2.2.2.2.2.2.2.2.2.2.2.1, z1.2.2.2.2.2.2.2.2.2.2.2.2.2.2.2.2.1, z1.2.2.2.2.2.2.2.2.2.2.2.2.2.2.2.2.2.1, ())
 | some (.inr z1) =>
  some (z1.1, z1.2.1, z1.2.2.1, z1.2.2.2.1, z1.2.2.2.2.1, z1.2.2.2.2.2.1, z1.2.2.2.2.2.2.1, z1.2.2.2.2.2.2.2.1, z1.2.2.2.2.2.2.2.2.1, z1.2.2.2.2.2.2.2.2.2.1, z1.2.2.2.2.2.2.2.2.2.2.1, z1.2.2.2.2.2.2.2.2.2.2.2.1, z1.2.2.2.2.2.2.2.2.2.2.2.2.1, z1.2.2.2.2.2.2.2.2.2.2.2.2.2.1, z1.2.2.2.2.2.2.2.2.2.2.2.2.2.2.1, z1.2.2.2.2.2.2.2.2.2.2.2.2.2.2.2.1, z1.2.2.2.2.2.2.2.2.2.2.2.2.2.2.2.2.1, z1.2.2.2.2.2.2.2.2.2.2.2.2.2.2.2.2.2.1, ())
def acM (s : List UInt8 × List ae × Unit) : Option (lj × Unit) :=
 match gN (s.2.1, ()) with
 | none => none
 | some r0 =>
  match fU (0, r0.1, false, false, s.1, [], 0, s.1, false, 0, false, false, [], [], 0, [], false, 0, ()) with
  | none => none
  | some r1 =>
   bif decide (r1.1 = 0) then
    some ((r1.2.2.1, (r1.2.2.2.1, ((r1.2.2.2.2.1, (r1.2.2.2.2.2.1, (r1.2.2.2.2.2.2.1, ()))), (r1.2.2.2.2.2.2.2.1, (r1.2.2.2.2.2.2.2.2.1, (r1.2.2.2.2.2.2.2.2.2.1, ())))))), ())
   else
    bif decide (r1.1 = 1) then
     some ((r1.2.2.2.2.2.2.2.2.2.2.1, (r1.2.2.2.2.2.2.2.2.2.2.2.1, ((r1.2.2.2.2.2.2.2.2.2.2.2.2.1, (r1.2.2.2.2.2.2.2.2.2.2.2.2.2.1, (r1.2.2.2.2.2.2.2.2.2.2.2.2.2.2.1, ()))), (r1.2.2.2.2.2.2.2.2.2.2.2.2.2.2.2.1, (r1.2.2.2.2.2.2.2.2.2.2.2.2.2.2.2.2.1, (r1.2.2.2.2.2.2.2.2.2.2.2.2.2.2.2.2.2.1, ())))))), ())
    else none
def mX (s : List UInt8 × Unit) : Option (Bool × Unit) :=
 some ((!decide ((s.1 : List UInt8) = s.1)), ())
def vB (s : ac) : Option (Bool × Unit) :=
 match mX (s.1, ()) with
 | none => none
 | some r0 =>
  bif r0.1 then
   match mX (s.2.1, ()) with
   | none => none
   | some r1 =>
    bif (!(!r1.1)) then
     some ((Op.bytesLess s.1 s.2.1), ())
    else
     some (true, ())
  else
   some ((Op.bytesLess s.1 s.2.1), ())
def kn (s : List UInt8 × Unit) : Option (Bool × Unit) :=
 some ((!decide ((s.1 : List UInt8) = s.1)), ())
def eW (s : Rv) : Option (Rv ⊕ (((List (List UInt8)) × List UInt8 × Int × Int × Unit) ⊕ Unit)) :=
 let t0 := decide (s.2.2.2.1 < s.2.2.2.2.1)
 bif t0 then
  let t1 := IntKind.i64.wrap (s.2.2.2.1 + s.2.2.2.2.1)
  let t2 : Int := (Int.fdiv (IntKind.u64.wrap t1) (2 ^ (min (Int.toNat 1) IntKind.u64.bits)))
  bif (decide (0 <= (IntKind.i64.wrap t2)) && decide (((IntKind.i64.wrap t2) : Int) < (List.length s.1 : Int))) then
   let t3 := (List.getD s.1 (Int.toNat (IntKind.i64.wrap t2)) [])
   match vB (t3, s.2.1, ()) with
   | none => none
   | some r4 =>
    bif r4.1 then
     let t5 := IntKind.i64.wrap ((IntKind.i64.wrap t2) + 1)
     some (.inl (s.1, s.2.1, s.2.2.1, t5, s.2.2.2.2.1, ()))
    else
     some (.inl (s.1, s.2.1, s.2.2.1, s.2.2.2.1, (IntKind.i64.wrap t2), ()))
  else none
 else
  some (.inr (.inl (s.1, s.2.1, s.2.2.1, s.2.2.2.1, ())))
def eY := aR eW
def gb (s : (List (List UInt8)) × List UInt8 × Unit) : Option R4 :=
 match eY (s.1, s.2.1, ((List.length s.1) : Int), 0, ((List.length s.1) : Int), ()) with
 | none => none
 | some (.inl z0) =>
  bif decide (z0.2.2.2.1 < z0.2.2.1) then
   bif decide (0 <= z0.2.2.2.1) && decide (z0.2.2.2.1 < (List.length z0.1 : Int)) then
    let t1 := (List.getD z0.1 (Int.toNat z0.2.2.2.1) [])
    bif (!(decide ((t1 : List UInt8) = z0.2.1))) then
     bif decide (0 <= z0.2.2.2.1) && decide (z0.2.2.2.1 < (List.length z0.1 : Int)) then
      let t2 := (List.getD z0.1 (Int.toNat z0.2.2.2.1) [])
      match kn (t2, ()) with
      | none => none
      | some r3 =>
       bif r3.1 then
        match kn (z0.2.1, ()) with
        | none => none
        | some r4 =>
         some (z0.2.2.2.1, r4.1, ())
       else
        some (z0.2.2.2.1, false, ())
     else none
    else
     some (z0.2.2.2.1, true, ())
   else none
  else
   some (z0.2.2.2.1, false, ())
 | some (.inr z0) =>
  none
def ahs (s : List UInt8 × (List (List UInt8)) × Unit) : Option (Int × Unit) :=
 match gb (s.2.1, s.1, ()) with
 | none => none
 | some r0 =>
  bif r0.2.1 then
   some ((IntKind.i64.wrap (r0.1 + 1)), ())
  else
   some (r0.1, ())
def adu (s : lj × aa × Bool × Unit) : Option (aa × Bool × Unit) :=
 bif s.1.1 then
  some (s.1.2.2.1, s.1.2.1, ())
 else
  bif !s.2.2.1 then
   some (([], ([], (0, ()))), false, ())
  else
   bif s.1.2.2.2.2.1 then
    some ((s.1.2.2.1.1, (s.2.1.2.1, (s.1.2.2.2.2.2.1, ()))), true, ())
   else
    some ((s.1.2.2.1.1, (s.2.1.2.1, (s.2.1.2.2.1, ()))), true, ())
def adv (s : Rg) : Option (Rg ⊕ (RL ⊕ Unit)) :=
 match eV (s.2.2.2.1.1, s.2.1, ()) with
 | none => none
 | some r0 =>
  bif (!decide (r0.2.1 = 0)) then
   some (.inr (.inl (r0.2.1, s.2.2.1, ([], ([], (0, ()))), false, 0, ())))
  else
   let t1 := IntKind.i64.wrap (s.2.2.2.2.2.2.2.2.1 + 1)
   match tZ (r0.1, ()) with
   | none => none
   | some r2 =>
    bif r2.1 then
     match afQ (r0.1.1, s.1, ()) with
     | none => none
     | some r3 =>
      some (.inr (.inl (0, s.2.2.1, r3.1, r3.2.1, t1, ())))
    else
     match acM (s.1, r0.1.2.2.2.2.1, ()) with
     | none => none
     | some r3 =>
      bif r3.1.1 then
       some (.inr (.inl (0, (r3.1 :: s.2.2.1), ([], ([], (0, ()))), false, t1, ())))
      else
       match ahs (r3.1.2.2.2.1, r0.1.2.1, ()) with
       | none => none
       | some r4 =>
        bif decide (0 <= r4.1) && decide (r4.1 < (List.length r0.1.2.2.1 : Int)) then
         let t5 := (List.getD r0.1.2.2.1 (Int.toNat r4.1) 0)
         some (.inl (r3.1.2.2.2.1, t5, (r3.1 :: s.2.2.1), s.2.2.2.1, s.2.2.2.2.1, s.2.2.2.2.2.1, s.2.2.2.2.2.2.1, s.2.2.2.2.2.2.2.1, t1, ()))
        else none
def adw := aR adv
def xZ (s : RL) : Option (RL ⊕ ((Int × aa × Bool × Int × Unit) ⊕ Unit)) :=
 bif (List.isEmpty s.2.1) then
  some (.inr (.inl (s.1, s.2.2.1, s.2.2.2.1, s.2.2.2.2.1, ())))
 else
  match (List.head? s.2.1) with
  | none => none
  | some x0 =>
   let t1 := decide (s.2.2.2.2.1 > 0)
   bif t1 then
    match adu (x0, s.2.2.1, s.2.2.2.1, ()) with
    | none => none
    | some r2 =>
     some (.inl (s.1, (List.tail s.2.1), r2.1, r2.2.1, s.2.2.2.2.1, ()))
   else
    some (.inl (s.1, (List.tail s.2.1), s.2.2.1, s.2.2.2.1, s.2.2.2.2.1, ()))
def ya := aR xZ
def afU (s : am × List UInt8 × Unit) : Option amd :=
 match adw (s.2.1, s.1.2.1, [], s.1, [], [], 0, false, 0, ()) with
 | none => none
 | some (.inl z0) =>
  match ya (z0.1, z0.2.1, z0.2.2.1, z0.2.2.2.1, z0.2.2.2.2.1, ()) with
  | none => none
  | some (.inl z1) =>
   some (z1.2.1, z1.2.2.1, z1.2.2.2.1, z1.1, ())
  | some (.inr z1) =>
   none
 | some (.inr z0) =>
  none
def aak (s : am × List UInt8 × Unit) : Option bF :=
 match afU (s.1, s.2.1, ()) with
 | none => none
 | some r0 =>
  some (r0.2.2.1, r0.2.2.2.1, ())
def bE (s : List aa × List aa × Int × Int × Unit) : Option ((List aa × List aa × Int × Int × Unit) ⊕ ((Bool × Unit) ⊕ Unit)) :=
 bif decide (s.2.2.2.1 < s.2.2.1) then
  bif decide (0 <= s.2.2.2.1) && decide (s.2.2.2.1 < (List.length s.1 : Int)) then
   let t0 := (List.getD s.1 (Int.toNat s.2.2.2.1) ([], ([], (0, ()))))
   bif decide (0 <= s.2.2.2.1) && decide (s.2.2.2.1 < (List.length s.2.1 : Int)) then
    let t1 := (List.getD s.2.1 (Int.toNat s.2.2.2.1) ([], ([], (0, ()))))
    let t2 := (!(Ty.eqb ag t0 t1))
    bif t2 then
     some (.inr (.inl (false, ())))
    else
     let t3 := IntKind.i64.wrap (s.2.2.2.1 + 1)
     some (.inl (s.1, s.2.1, s.2.2.1, t3, ()))
   else none
  else none
 else
  some (.inr (.inr (())))
def dk := aR bE
def cw (s : List aa × List aa × Unit) : Option (Bool × Unit) :=
 let t0 := (!decide ((((List.length s.1) : Int) : Int) = ((List.length s.2.1) : Int)))
 bif t0 then
  some (false, ())
 else
  match dk (s.1, s.2.1, ((List.length s.1) : Int), 0, ()) with
  | none => none
  | some (.inl z1) =>
   some (z1.1, ())
  | some (.inr z1) =>
   some (true, ())
def bQ (s : Rp) : Option (Rp ⊕ ((Bool × Unit) ⊕ Unit)) :=
 bif decide (s.2.2.2.1 < s.2.2.1) then
  bif decide (0 <= s.2.2.2.1) && decide (s.2.2.2.1 < (List.length s.1 : Int)) then
   let t0 := (List.getD s.1 (Int.toNat s.2.2.2.1) [])
   bif decide (0 <= s.2.2.2.1) && decide (s.2.2.2.1 < (List.length s.2.1 : Int)) then
    let t1 := (List.getD s.2.1 (Int.toNat s.2.2.2.1) [])
    bif (!decide ((t0 : List UInt8) = t1)) then
     some (.inr (.inl (false, ())))
    else
     let t2 := IntKind.i64.wrap (s.2.2.2.1 + 1)
     some (.inl (s.1, s.2.1, s.2.2.1, t2, ()))
   else none
  else none
 else
  some (.inr (.inr (())))
def eo := aR bQ
def d9 (s : (List (List UInt8)) × (List (List UInt8)) × Unit) : Option (Bool × Unit) :=
 let t0 := (!decide ((((List.length s.1) : Int) : Int) = ((List.length s.2.1) : Int)))
 bif t0 then
  some (false, ())
 else
  match eo (s.1, s.2.1, ((List.length s.1) : Int), 0, ()) with
  | none => none
  | some (.inl z1) =>
   some (z1.1, ())
  | some (.inr z1) =>
   some (true, ())
def da (s : List Int × List Int × Int × Int × Unit) : Option ((List Int × List Int × Int × Int × Unit) ⊕ ((Bool × Unit) ⊕ Unit)) :=
 bif decide (s.2.2.2.1 < s.2.2.1) then
  bif decide (0 <= s.2.2.2.1) && decide (s.2.2.2.1 < (List.length s.1 : Int)) then
   let t0 := (List.getD s.1 (Int.toNat s.2.2.2.1) 0)
   bif decide (0 <= s.2.2.2.1) && decide (s.2.2.2.1 < (List.length s.2.1 : Int)) then
    let t1 := (List.getD s.2.1 (Int.toNat s.2.2.2.1) 0)
    bif (!decide (t0 = t1)) then
     some (.inr (.inl (false, ())))
    else
     let t2 := IntKind.i64.wrap (s.2.2.2.1 + 1)
     some (.inl (s.1, s.2.1, s.2.2.1, t2, ()))
   else none
  else none
 else
  some (.inr (.inr (())))
def io := aR da
def gE (s : List Int × List Int × Unit) : Option (Bool × Unit) :=
 let t0 := (!decide ((((List.length s.1) : Int) : Int) = ((List.length s.2.1) : Int)))
 bif t0 then
  some (false, ())
 else
  match io (s.1, s.2.1, ((List.length s.1) : Int), 0, ()) with
  | none => none
  | some (.inl z1) =>
   some (z1.1, ())
  | some (.inr z1) =>
   some (true, ())
def bK (s : List api_Sum × List api_Sum × Int × Int × Unit) : Option ((List api_Sum × List api_Sum × Int × Int × Unit) ⊕ ((Bool × Unit) ⊕ Unit)) :=
 bif decide (s.2.2.2.1 < s.2.2.1) then
  bif decide (0 <= s.2.2.2.1) && decide (s.2.2.2.1 < (List.length s.1 : Int)) then
   let t0 := (List.getD s.1 (Int.toNat s.2.2.2.1) ((0, (0, ())), ((0, (0, ())), ())))
   bif decide (0 <= s.2.2.2.1) && decide (s.2.2.2.1 < (List.length s.2.1 : Int)) then
    let t1 := (List.getD s.2.1 (Int.toNat s.2.2.2.1) ((0, (0, ())), ((0, (0, ())), ())))
    let t2 := (!(Ty.eqb aQ t0 t1))
    bif t2 then
     some (.inr (.inl (false, ())))
    else
     let t3 := IntKind.i64.wrap (s.2.2.2.1 + 1)
     some (.inl (s.1, s.2.1, s.2.2.1, t3, ()))
   else none
  else none
 else
  some (.inr (.inr (())))
def dJ := aR bK
def cS (s : List api_Sum × List api_Sum × Unit) : Option (Bool × Unit) :=
 let t0 := (!decide ((((List.length s.1) : Int) : Int) = ((List.length s.2.1) : Int)))
 bif t0 then
  some (false, ())
 else
  match dJ (s.1, s.2.1, ((List.length s.1) : Int), 0, ()) with
  | none => none
  | some (.inl z1) =>
   some (z1.1, ())
  | some (.inr z1) =>
   some (true, ())
def bJ (s : List ae × List ae × Int × Int × Unit) : Option ((List ae × List ae × Int × Int × Unit) ⊕ ((Bool × Unit) ⊕ Unit)) :=
 bif decide (s.2.2.2.1 < s.2.2.1) then
  bif decide (0 <= s.2.2.2.1) && decide (s.2.2.2.1 < (List.length s.1 : Int)) then
   let t0 := (List.getD s.1 (Int.toNat s.2.2.2.1) (0, ([], ([], (([], ([], ())), ([], ([], (0, ()))))))))
   bif decide (0 <= s.2.2.2.1) && decide (s.2.2.2.1 < (List.length s.2.1 : Int)) then
    let t1 := (List.getD s.2.1 (Int.toNat s.2.2.2.1) (0, ([], ([], (([], ([], ())), ([], ([], (0, ()))))))))
    let t2 := (!(Ty.eqb ah t0 t1))
    bif t2 then
     some (.inr (.inl (false, ())))
    else
     let t3 := IntKind.i64.wrap (s.2.2.2.1 + 1)
     some (.inl (s.1, s.2.1, s.2.2.1, t3, ()))
   else none
  else none
 else
  some (.inr (.inr (())))
def dI := aR bJ
def cR (s : List ae × List ae × Unit) : Option (Bool × Unit) :=
 let t0 := (!decide ((((List.length s.1) : Int) : Int) = ((List.length s.2.1) : Int)))
 bif t0 then
  some (false, ())
 else
  match dI (s.1, s.2.1, ((List.length s.1) : Int), 0, ()) with
  | none => none
  | some (.inl z1) =>
   some (z1.1, ())
  | some (.inr z1) =>
   some (true, ())
def yj (s : api_Node × api_Node × Unit) : Option (Bool × Unit) :=
 match cw (s.1.1, s.2.1.1, ()) with
 | none => none
 | some r0 =>
  bif r0.1 then
   match d9 (s.1.2.1, s.2.1.2.1, ()) with
   | none => none
   | some r1 =>
    bif r1.1 then
     match gE (s.1.2.2.1, s.2.1.2.2.1, ()) with
     | none => none
     | some r2 =>
      bif r2.1 then
       match cS (s.1.2.2.2.1, s.2.1.2.2.2.1, ()) with
       | none => none
       | some r3 =>
        bif r3.1 then
         match cR (s.1.2.2.2.2.1, s.2.1.2.2.2.2.1, ()) with
         | none => none
         | some r4 =>
          some (r4.1, ())
        else
         some (false, ())
      else
       some (false, ())
    else
     some (false, ())
  else
   some (false, ())
def cU (s : Int × List aj × Int × Int × Bool × au × Unit) : Option (RN ⊕ ((Int × Unit) ⊕ Unit)) :=
 bif s.2.2.2.2.1 then
  let t0 := IntKind.i64.wrap (s.2.2.2.1 + 1)
  some (.inl ((IntKind.i64.wrap (s.1 + 1)), s.2.1, s.2.2.1, t0, s.2.2.2.2.2.1, ()))
 else
  let t0 := IntKind.i64.wrap (s.2.2.2.1 + 1)
  some (.inl (s.1, s.2.1, s.2.2.1, t0, s.2.2.2.2.2.1, ()))

def eJ (s : RN) : Option (RN ⊕ ((Int × Unit) ⊕ Unit)) :=
 bif decide (s.2.2.2.1 < s.2.2.1) then
  bif decide (0 <= s.2.2.2.1) && decide (s.2.2.2.1 < (List.length s.2.1 : Int)) then
   let t0 := (List.getD s.2.1 (Int.toNat s.2.2.2.1) (false, (false, (0, (([], ([], ([], ([], ([], ()))))), ())))))
   bif t0.1 then
    let t1 := (decide (s.2.2.2.1 >= ((List.length s.2.2.2.2.1.1) : Int)))
    bif !t1 then
     bif decide (0 <= s.2.2.2.1) && decide (s.2.2.2.1 < (List.length s.2.2.2.2.1.1 : Int)) then
      let t2 := (List.getD s.2.2.2.2.1.1 (Int.toNat s.2.2.2.1) (false, (false, (0, (([], ([], ([], ([], ([], ()))))), ())))))
      bif (!(!t2.1)) then
       bif decide (0 <= s.2.2.2.1) && decide (s.2.2.2.1 < (List.length s.2.2.2.2.1.1 : Int)) then
        let t3 := (List.getD s.2.2.2.2.1.1 (Int.toNat s.2.2.2.1) (false, (false, (0, (([], ([], ([], ([], ([], ()))))), ())))))
        match yj (t3.2.2.2.1, t0.2.2.2.1, ()) with
        | none => none
        | some r4 =>
         cU (s.1, s.2.1, s.2.2.1, s.2.2.2.1, (!r4.1), s.2.2.2.2.1, ())
       else none
      else
       cU (s.1, s.2.1, s.2.2.1, s.2.2.2.1, true, s.2.2.2.2.1, ())
     else none
    else
     cU (s.1, s.2.1, s.2.2.1, s.2.2.2.1, true, s.2.2.2.2.1, ())
   else
    cU (s.1, s.2.1, s.2.2.1, s.2.2.2.1, false, s.2.2.2.2.1, ())
  else none
 else
  some (.inr (.inl (s.1, ())))
def oB := aR eJ
def iA (s : au × au × Unit) : Option (Int × Unit) :=
 match oB (0, s.2.1.1, ((List.length s.2.1.1) : Int), 0, s.1, ()) with
 | none => none
 | some (.inl z0) =>
  some (z0.1, ())
 | some (.inr z0) =>
  none
def vF (s : aT) : Option bF :=
 some (s.2.1, (IntKind.i64.wrap (s.2.2.1 + s.1)), ())
def acl (s : am × am × Int × Unit) : Option hK :=
 match iA (s.1.1, s.2.1.1, ()) with
 | none => none
 | some r0 =>
  match vF (r0.1, s.2.2.1, 0, ()) with
  | none => none
  | some r1 =>
   some ((r1.1, (r1.2.1, ())), ())
def p8 (s : aT) : Option (Bool × Unit) :=
 bif decide (s.2.1 <= s.1) then
  some ((decide (s.1 <= s.2.2.1)), ())
 else
  some (false, ())
def afZ (s : aT × Unit) : Option (Bool × Unit) :=
 match p8 (s.1.1, 2, 64, ()) with
 | none => none
 | some r0 =>
  bif r0.1 then
   match p8 (s.1.2.1, 2, 16, ()) with
   | none => none
   | some r1 =>
    bif r1.1 then
     match p8 (s.1.2.2.1, 1, 64, ()) with
     | none => none
     | some r2 =>
      some (r2.1, ())
    else
     some (false, ())
  else
   some (false, ())
def aas (s : aj × Unit) : Option (Bool × Unit) :=
 some ((!s.1.1), ())
def bo (s : List aj × Int × Int × Unit) : Option ((List aj × Int × Int × Unit) ⊕ ((Int × Unit) ⊕ Unit)) :=
 bif decide (s.2.2.1 < s.2.1) then
  bif decide (0 <= s.2.2.1) && decide (s.2.2.1 < (List.length s.1 : Int)) then
   let t0 := (List.getD s.1 (Int.toNat s.2.2.1) (false, (false, (0, (([], ([], ([], ([], ([], ()))))), ())))))
   match aas (t0, ()) with
   | none => none
   | some r1 =>
    bif r1.1 then
     some (.inr (.inl (s.2.2.1, ())))
    else
     some (.inl (s.1, s.2.1, (IntKind.i64.wrap (s.2.2.1 + 1)), ()))
  else none
 else
  some (.inr (.inr (())))
def cy := aR bo
def bU (s : au) : Option (Int × Unit) :=
 match cy (s.1, ((List.length s.1) : Int), 0, ()) with
 | none => none
 | some (.inl z0) =>
  some (z0.1, ())
 | some (.inr z0) =>
  some ((-1 : Int), ())
def qK (s : au × Unit) : Option au :=
 bif (decide (0 <= ((List.length s.1.1) : Int)) && decide ((((List.length s.1.1) : Int) : Int) <= ((List.length s.1.1) : Int)) && decide (((List.length s.1.1) : Int) * 136 <= (ai : Int))) then
  let t0 := (List.take (List.length (List.replicate (Int.toNat ((List.length s.1.1) : Int)) (false, (false, ((0 : Int), ((([] : List aa), (([] : List (List UInt8)), (([] : List Int), (([] : List api_Sum), (([] : List ae), ()))))), ())))))) s.1.1)
  let t1 := (List.take 0 (List.replicate (Int.toNat ((List.length s.1.1) : Int)) (false, (false, ((0 : Int), ((([] : List aa), (([] : List (List UInt8)), (([] : List Int), (([] : List api_Sum), (([] : List ae), ()))))), ()))))) ++ t0 ++ List.drop (0 + List.length t0) (List.replicate (Int.toNat ((List.length s.1.1) : Int)) (false, (false, ((0 : Int), ((([] : List aa), (([] : List (List UInt8)), (([] : List Int), (([] : List api_Sum), (([] : List ae), ()))))), ()))))))
  some (t1, ())
 else none
end D
