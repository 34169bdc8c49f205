/- Plain functions, by program. -/
import Derived.Test.YtmmmpanpbphkdaaGreatDoorXD
set_option linter.unusedVariables false
open Go Go.X
namespace D
abbrev dS : Type := Int × Int × Unit
abbrev av : Type := List UInt8 × Int × Unit
abbrev aP : Type := Int × Int × Int × Unit
abbrev sL : Type := dS × Unit
abbrev aa : Type := List UInt8 × List UInt8 × Unit
abbrev ae : Type := List UInt8 × List UInt8 × Int × Unit
abbrev cD : Type := List UInt8 × Int × Int × List UInt8 × Unit
abbrev api_Sum : Type := dS × dS × Unit
abbrev oA : Type := ae × Bool × Int × Int × Unit
abbrev sI : Type := Bool × Bool × ae × List UInt8 × Bool × Int × Unit
abbrev ag : Type := Int × List UInt8 × List UInt8 × aa × List UInt8 × List UInt8 × Int × Unit
abbrev api_Node : Type := List ae × (List (List UInt8)) × List Int × List api_Sum × List ag × Unit
abbrev aA : Type := List aP × ((List (Int × Int × Int × Int × Int × Int × Unit)) × (List (Int × Int × Int × Int × Int × Int × Unit)) × (List (Int × Int × Int × Int × Int × Int × Unit)) × (List (Int × Int × Int × Int × Int × Int × Unit)) × Unit) × Int × Unit
abbrev aq : Type := Bool × Bool × Int × api_Node × Unit
abbrev ah : Type := List aq × Unit
abbrev aO : Type := ah × Int × Unit
abbrev gC : Type := ah × Int × Int × Unit
abbrev az : Type := ah × Int × aP × Unit
@[reducible] def bc : Ty := (.pair (.int .i64) (.pair (.int .i64) .unit))
@[reducible] def ft : Ty := (.pair (.int .i64) bc)
@[reducible] def aoq : Ty := (.pair bc .unit)
@[reducible] def ac : Ty := (.pair .str (.pair .str .unit))
@[reducible] def af : Ty := (.pair .str (.pair .str (.pair (.int .i64) .unit)))
@[reducible] def aF : Ty := (.pair .str (.pair (.int .i64) (.pair (.int .i64) (.pair .str .unit))))
@[reducible] def aG : Ty := (.pair bc aoq)
@[reducible] def apx : Ty := (.pair .str (.pair .bool (.pair .bool (.pair .str (.pair .bool (.pair (.int .i64) .unit))))))
@[reducible] def asY : Ty := (.pair af (.pair .bool bc))
@[reducible] def qr : Ty := (.pair (.pair .str .unit) (.pair aF .unit))
@[reducible] def aE : Ty := (.pair .bool (.pair .bool (.pair af (.pair .str (.pair .bool (.pair (.int .i64) .unit))))))
@[reducible] def aj : Ty := (.pair (.int .i64) (.pair .str (.pair .str (.pair ac af))))
@[reducible] def aw : Ty := (.pair (.list af) (.pair (.list .str) (.pair (.list (.int .i64)) (.pair (.list aG) (.pair (.list aj) .unit)))))
@[reducible] def aY : Ty := (.pair (.list (.pair (.int .u8) (.pair (.int .u8) (.pair (.int .u8) .unit)))) (.pair (.pair (.list (.pair (.int .u8) (.pair (.int .u8) (.pair (.int .u8) (.pair (.int .u8) (.pair (.int .u8) (.pair (.int .u8) .unit))))))) (.pair (.list (.pair (.int .u8) (.pair (.int .u8) (.pair (.int .u8) (.pair (.int .u8) (.pair (.int .u8) (.pair (.int .u8) .unit))))))) (.pair (.list (.pair (.int .u8) (.pair (.int .u8) (.pair (.int .u8) (.pair (.int .u8) (.pair (.int .u8) (.pair (.int .u8) .unit))))))) (.pair (.list (.pair (.int .u8) (.pair (.int .u8) (.pair (.int .u8) (.pair (.int .u8) (.pair (.int .u8) (.pair (.int .u8) .unit))))))) .unit)))) (.pair (.int .u8) .unit)))
@[reducible] def aK : Ty := (.pair .bool (.pair .bool (.pair (.int .i64) (.pair aw .unit))))
@[reducible] def ak : Ty := (.pair (.list aK) .unit)
@[reducible] def aB : Ty := (.pair ak (.pair (.int .i64) .unit))
@[reducible] def bC : Ty := (.pair ak bc)
@[reducible] def aN : Ty := (.pair ak (.pair (.int .i64) (.pair ft .unit)))
abbrev RB : Type := List UInt8 × List UInt8 × List UInt8 × (Int × Int × Int × Int × Int × Int × Unit) × Int × List UInt8 × List UInt8 × List UInt8 × List UInt8 × List UInt8 × List UInt8 × Int × aa × Unit
abbrev RD : Type := Int × Int × List ag × Bool × Bool × List UInt8 × List UInt8 × Int × List UInt8 × Bool × Int × Bool × Bool × List UInt8 × List UInt8 × Int × List UInt8 × Bool × Int × Unit
abbrev RE : Type := Int × List ag × Bool × Bool × List UInt8 × List UInt8 × Int × List UInt8 × Bool × Int × Bool × Bool × List UInt8 × List UInt8 × Int × List UInt8 × Bool × Int × Unit
abbrev RF : Type := Bool × Int × Bool × Bool × List UInt8 × List UInt8 × Int × List UInt8 × Bool × Int × Bool × Bool × List UInt8 × List UInt8 × Int × List UInt8 × Bool × Int × Unit
abbrev RG : Type := List ae × (List (List (List UInt8))) × Int × ah × aa × aA × List aq × Int × List ae × List ag × List aa × (List (List UInt8)) × List Int × List api_Sum × Unit
abbrev RH : Type := Int × List aq × Int × List ae × gC × ah × (List (List UInt8)) × List Int × List api_Sum × List ag × Unit
abbrev RI : Type := List ae × (List (List (List UInt8))) × Int × ah × aa × aA × List aq × Int × (List (List UInt8)) × Unit
abbrev RJ : Type := List ae × (List (List (List UInt8))) × ah × aa × aA × List aq × Int × (List (List UInt8)) × Unit
abbrev RK : Type := List api_Sum × Int × Int × api_Node × Int × Int × Int × Int × Int × Int × Int × Int × Unit
abbrev RL : Type := List UInt8 × Int × List sI × az × List UInt8 × List UInt8 × Int × Bool × Int × Unit
abbrev RM : Type := ag × Bool × Bool × List UInt8 × List UInt8 × Int × List UInt8 × Bool × Int × Unit
abbrev RN : Type := Int × Int × Bool × Int × Int × aa × List aa × ah × Int × List ae × List ae × Unit
abbrev RO : Type := (List (Int × Int × Int × Int × Int × Int × Unit)) × Int × Int × List ag × Unit
abbrev RP : Type := List ae × Int × Int × ah × Int × api_Node × List aa × List aa × List ae × Unit
abbrev RQ : Type := Int × Int × Int × Int × aa × List aa × ah × Int × List ae × List ae × Unit
abbrev RR : Type := List ag × Int × Int × Int × Int × Int × Int × Int × Int × Int × Int × Unit
abbrev RS : Type := List aa × Int × Int × List aa × Int × Int × List aa × aa × List aa × Unit
abbrev RT : Type := List ae × List aa × Int × Int × ah × Int × api_Node × aa × List aa × Unit
abbrev RU : Type := Int × Bool × List UInt8 × List UInt8 × Int × Int × List UInt8 × Unit
abbrev RW : Type := List UInt8 × (List (List UInt8)) × Int × Int × api_Node × aa × Unit
abbrev RX : Type := List UInt8 × (List (List UInt8)) × Int × Int × aa × List aa × Unit
abbrev RY : Type := Int × Int × Int × Bool × Bool × Int × Int × Bool × List aa × Unit
abbrev RZ : Type := List UInt8 × Int × List UInt8 × Int × Int × List UInt8 × Unit
abbrev R0 : Type := (List (List UInt8)) × List UInt8 × Int × aa × List aa × Unit
abbrev R4 : Type := (List (List ae)) × Int × (List (List ae)) × Int × Int × Unit
abbrev R6 : Type := Int × Int × api_Node × List aq × Int × Int × List aq × Unit
abbrev R7 : Type := List UInt8 × List UInt8 × Int × (List (List UInt8)) × Unit
abbrev R8 : Type := ah × List ae × aa × (List (List (List UInt8))) × aA × Unit
abbrev R9 : Type := Int × Int × Int × Bool × Bool × Int × Int × List aa × Unit
abbrev Ta : Type := (List (List UInt8)) × List UInt8 × Int × Int × Int × Unit
abbrev Tb : Type := Int × api_Node × Int × Int × Int × Int × api_Sum × Unit
abbrev Tc : Type := List UInt8 × List UInt8 × Int × Int × List UInt8 × Unit
abbrev Td : Type := List UInt8 × List UInt8 × List UInt8 × List Int × Unit
abbrev Te : Type := Bool × cD × List UInt8 × Int × Int × List UInt8 × Unit
abbrev Tf : Type := Int × Int × Int × Int × ah × api_Node × List aa × Unit
abbrev Tg : Type := List Int × Int × Int × ah × api_Node × List aq × Unit
abbrev Th : Type := Int × List Int × Int × Int × List aq × List aq × Unit
abbrev Ti : Type := List UInt8 × List UInt8 × Int × Int × List ae × Unit
abbrev Tj : Type := Int × Int × Int × List aa × ag × aa × List aa × Unit
abbrev Tk : Type := Int × Int × aa × List aa × ah × Int × List ae × Unit
abbrev Tl : Type := Int × Bool × Bool × aA × Int × Int × Int × az × Unit
abbrev Tm : Type := List ae × Int × Int × Int × Int × Int × Int × Unit
abbrev Tn : Type := List UInt8 × Int × List UInt8 × List UInt8 × Unit
abbrev To : Type := List UInt8 × List aa × Int × Int × List aa × Unit
abbrev Tp : Type := Int × ah × api_Node × List aq × Int × Int × Unit
abbrev Tq : Type := Int × Int × Int × Bool × Bool × List aa × Unit
abbrev Tt : Type := List aa × Int × Int × List aa × List aa × Unit
abbrev Tu : Type := Int × Int × Int × Int × Bool × List aa × Unit
abbrev Tv : Type := Int × Int × Int × Int × Int × List aa × Unit
abbrev Tw : Type := Int × Int × Int × Int × List aa × Int × Unit
abbrev Tx : Type := List ae × Bool × Int × ae × List ae × Unit
abbrev Tz : Type := Int × Int × aa × List ag × List ag × Unit
abbrev TA : Type := api_Node × aa × List aa × ah × Int × Unit
abbrev TB : Type := Int × Int × Int × Int × Int × Int × Unit
abbrev TC : Type := Int × List sI × ae × Bool × Int × Unit
abbrev TD : Type := Int × Int × Int × Int × List aa × Unit
abbrev TE : Type := List UInt8 × List UInt8 × Bool × Unit
abbrev TF : Type := Int × Int × List aa × List aa × Unit
abbrev TG : Type := Int × Int × List ae × List aa × Unit
abbrev TH : Type := List ae × List ae × List ae × Unit
abbrev TJ : Type := Int × Int × Int × List aa × Unit
abbrev TK : Type := Int × Int × List aa × aa × Unit
abbrev TL : Type := List aP × Int × List ae × Unit
abbrev TM : Type := Int × List ag × List aa × Unit
abbrev TN : Type := List UInt8 × Int × Bool × Unit
abbrev TP : Type := List UInt8 × Int × Int × Unit
abbrev TQ : Type := List ae × List UInt8 × Unit
abbrev TR : Type := Int × Int × List aa × Unit
abbrev TS : Type := Int × List aa × Int × Unit
abbrev TT : Type := ah × Int × aa × Int × Unit
abbrev TU : Type := List ae × List ae × Unit
abbrev TV : Type := List ae × List aa × Unit
abbrev TW : Type := List UInt8 × Bool × Unit
abbrev TX : Type := api_Node × aa × Unit
abbrev TY : Type := List ae × aa × Unit
abbrev TZ : Type := ag × List ae × Unit
abbrev T3 : Type := List aa × aa × Unit
abbrev T4 : Type := Int × Bool × Unit
abbrev T5 : Type := aa × aa × Unit
def sw (s : aa) : Option (Bool × Unit) :=
 let t0 := (!decide ((s.1 : List UInt8) = []))
 bif t0 then
  let t1 := decide ((s.2.1 : List UInt8) = [])
  bif !t1 then
   some ((Op.bytesLess s.1 s.2.1), ())
  else
   some (true, ())
 else
  some (false, ())
def kj (s : aa × Unit) : Option (Bool × Unit) :=
 let t0 := (!decide ((s.1.2.1 : List UInt8) = []))
 bif t0 then
  let t1 := (Op.bytesLess s.1.2.1 s.1.1 || decide ((s.1.2.1 : List UInt8) = s.1.1))
  some (t1, ())
 else
  some (false, ())
def aiw (s : Unit) : Option (aa × Unit) :=
 some ((([97] : List UInt8), (([97] : List UInt8), ())), ())
def vf (s : List UInt8 × List UInt8 × List UInt8 × List UInt8 × Unit) : Option (aa × Unit) :=
 match kj ((s.2.2.1, (s.2.2.2.1, ())), ()) with
 | none => none
 | some r0 =>
  bif r0.1 then
   match aiw (()) with
   | none => none
   | some r1 =>
    some (r1.1, ())
  else
   some ((s.2.2.1, (s.2.2.2.1, ())), ())

def yK (s : T5) : Option (aa × Unit) :=
 let t0 : List UInt8 := (bif !(Op.bytesLess s.1.1 s.2.1.1) then s.1.1 else s.2.1.1)
 match sw (s.2.1.2.1, s.1.2.1, ()) with
 | none => none
 | some r1 =>
  bif r1.1 then
   vf ([], [], t0, s.2.1.2.1, ())
  else
   vf ([], [], t0, s.1.2.1, ())
def pZ (s : R0) : Option (R0 ⊕ ((List UInt8 × aa × List aa × Unit) ⊕ Unit)) :=
 let t0 := (decide (s.2.2.1 < ((List.length s.1) : Int)))
 bif t0 then
  bif decide (0 <= s.2.2.1) && decide (s.2.2.1 < (List.length s.1 : Int)) then
   let t1 := (List.getD s.1 (Int.toNat s.2.2.1) [])
   match yK (s.2.2.2.1, (s.2.1, (t1, ())), ()) with
   | none => none
   | some r2 =>
    bif (decide ((List.length s.2.2.2.2.1 + List.length ([r2.1] : List aa)) * 32 <= am)) then
     let t3 : List aa := (s.2.2.2.2.1 ++ ([r2.1] : List aa))
     bif decide (0 <= s.2.2.1) && decide (s.2.2.1 < (List.length s.1 : Int)) then
      let t4 := (List.getD s.1 (Int.toNat s.2.2.1) [])
      some (.inl (s.1, t4, (IntKind.i64.wrap (s.2.2.1 + 1)), s.2.2.2.1, t3, ()))
     else none
    else none
  else none
 else
  some (.inr (.inl (s.2.1, s.2.2.2.1, s.2.2.2.2.1, ())))
def yL := aQ pZ
def sT (s : aa × (List (List UInt8)) × Unit) : Option (List aa × Unit) :=
 match yL (s.2.1, [], 0, s.1, [], ()) with
 | none => none
 | some (.inl z0) =>
  match yK (z0.2.1, (z0.1, ([], ())), ()) with
  | none => none
  | some r1 =>
   bif (decide ((List.length z0.2.2.1 + List.length ([r1.1] : List aa)) * 32 <= am)) then
    let t2 : List aa := (z0.2.2.1 ++ ([r1.1] : List aa))
    some (t2, ())
   else none
 | some (.inr z0) =>
  none
def vG (s : TX) : Option (List aa × Unit) :=
 let t0 := (decide ((((List.length s.1.2.2.1) : Int) : Int) = 0))
 bif t0 then
  some ([], ())
 else
  match sT (s.2.1, s.1.2.1, ()) with
  | none => none
  | some r1 =>
   some (r1.1, ())
def ab8 (s : aa × List UInt8 × Unit) : Option (Bool × Unit) :=
 bif (!(Op.bytesLess s.2.1 s.1.1)) then
  let t0 := decide ((s.1.2.1 : List UInt8) = [])
  bif !t0 then
   some ((Op.bytesLess s.2.1 s.1.2.1), ())
  else
   some (true, ())
 else
  some (false, ())
def qa (s : List ae × Int × aa × List ae × Unit) : Option ((List ae × Int × aa × List ae × Unit) ⊕ ((List ae × Unit) ⊕ Unit)) :=
 let t0 := (decide (s.2.1 < ((List.length s.1) : Int)))
 bif t0 then
  bif decide (0 <= s.2.1) && decide (s.2.1 < (List.length s.1 : Int)) then
   let t1 := (List.getD s.1 (Int.toNat s.2.1) ([], ([], (0, ()))))
   match ab8 (s.2.2.1, t1.1, ()) with
   | none => none
   | some r2 =>
    bif r2.1 then
     bif decide (0 <= s.2.1) && decide (s.2.1 < (List.length s.1 : Int)) then
      let t3 := (List.getD s.1 (Int.toNat s.2.1) ([], ([], (0, ()))))
      bif (decide ((List.length s.2.2.2.1 + List.length ([t3] : List ae)) * 40 <= am)) then
       let t4 : List ae := (s.2.2.2.1 ++ ([t3] : List ae))
       some (.inl (s.1, (IntKind.i64.wrap (s.2.1 + 1)), s.2.2.1, t4, ()))
      else none
     else none
    else
     some (.inl (s.1, (IntKind.i64.wrap (s.2.1 + 1)), s.2.2.1, s.2.2.2.1, ()))
  else none
 else
  some (.inr (.inl (s.2.2.2.1, ())))
def yN := aQ qa
def zC (s : TY) : Option (List ae × Unit) :=
 match yN (s.1, 0, s.2.1, [], ()) with
 | none => none
 | some (.inl z0) =>
  some (z0.1, ())
 | some (.inr z0) =>
  none
def uN (s : aO) : Option (Bool × Unit) :=
 bif decide (s.2.1 >= 0) then
  let t0 := (decide (s.2.1 < ((List.length s.1.1) : Int)))
  bif t0 then
   bif decide (0 <= s.2.1) && decide (s.2.1 < (List.length s.1.1 : Int)) then
    let t1 := (List.getD s.1.1 (Int.toNat s.2.1) (false, (false, (0, (([], ([], ([], ([], ([], ()))))), ())))))
    some (t1.1, ())
   else none
  else
   some (false, ())
 else
  some (false, ())
def tX (s : ah × Unit) : Option ah :=
 bif (decide ((List.length ([] : List aq) + List.length s.1.1) * 136 <= am)) then
  let t0 : List aq := ([] ++ s.1.1)
  some (t0, ())
 else none
def tU (s : Tp) : Option (Tp ⊕ (gC ⊕ (ah × api_Node × List aq × Int × Int × Unit))) :=
 let t0 := (decide (s.1 < ((List.length s.2.2.1.2.2.1) : Int)))
 bif t0 then
  bif decide (0 <= s.1) && decide (s.1 < (List.length s.2.2.1.2.2.1 : Int)) then
   let t1 := (List.getD s.2.2.1.2.2.1 (Int.toNat s.1) 0)
   match uN (s.2.1, t1, ()) with
   | none => none
   | some r2 =>
    bif !r2.1 then
     some (.inr (.inl (s.2.1, 0, 110, ())))
    else
     some (.inl ((IntKind.i64.wrap (s.1 + 1)), s.2.1, s.2.2.1, s.2.2.2.1, s.2.2.2.2.1, s.2.2.2.2.2.1, ()))
  else none
 else
  some (.inr (.inr (s.2.1, s.2.2.1, s.2.2.2.1, s.2.2.2.2.1, s.2.2.2.2.2.1, ())))
def acF := aQ tU
def tV (s : Tp) : Option (Tp ⊕ (Tp ⊕ Unit)) :=
 let t0 := (decide (s.1 < ((List.length s.2.1.1) : Int)))
 bif t0 then
  bif decide (0 <= s.1) && decide (s.1 < (List.length s.2.1.1 : Int)) then
   let t1 := (List.getD s.2.1.1 (Int.toNat s.1) (false, (false, (0, (([], ([], ([], ([], ([], ()))))), ())))))
   bif t1.1 then
    some (.inl ((IntKind.i64.wrap (s.1 + 1)), s.2.1, s.2.2.1, s.2.2.2.1, s.2.2.2.2.1, s.2.2.2.2.2.1, ()))
   else
    some (.inr (.inl (s.1, s.2.1, s.2.2.1, s.2.2.2.1, s.2.2.2.2.1, s.2.2.2.2.2.1, ())))
  else none
 else
  some (.inr (.inl (s.1, s.2.1, s.2.2.1, s.2.2.2.1, s.2.2.2.2.1, s.2.2.2.2.2.1, ())))
def acG := aQ tV
def tW (s : R6) : Option (R6 ⊕ ((Int × List aq × Int × Int × List aq × Unit) ⊕ Unit)) :=
 let t0 := (decide (s.2.1 < ((List.length s.2.2.1.2.2.1) : Int)))
 bif t0 then
  bif decide (0 <= s.2.1) && decide (s.2.1 < (List.length s.2.2.1.2.2.1 : Int)) then
   let t1 := (List.getD s.2.2.1.2.2.1 (Int.toNat s.2.1) 0)
   bif decide (0 <= t1) && decide (t1 < (List.length s.2.2.2.2.2.2.1 : Int)) then
    let t2 := (List.getD s.2.2.2.2.2.2.1 (Int.toNat t1) (false, (false, (0, (([], ([], ([], ([], ([], ()))))), ())))))
    let t3 := IntKind.i64.wrap (t2.2.2.1 + 1)
    bif decide (0 <= t1) && decide (t1 < (List.length s.2.2.2.2.2.2.1 : Int)) then
     let t4 := (List.set s.2.2.2.2.2.2.1 (Int.toNat t1) ((List.getD s.2.2.2.2.2.2.1 (Int.toNat t1) (false, (false, (0, (([], ([], ([], ([], ([], ()))))), ()))))).1, ((List.getD s.2.2.2.2.2.2.1 (Int.toNat t1) (false, (false, (0, (([], ([], ([], ([], ([], ()))))), ()))))).2.1, (t3, (List.getD s.2.2.2.2.2.2.1 (Int.toNat t1) (false, (false, (0, (([], ([], ([], ([], ([], ()))))), ()))))).2.2.2))))
     some (.inl (s.1, (IntKind.i64.wrap (s.2.1 + 1)), s.2.2.1, s.2.2.2.1, s.2.2.2.2.1, s.2.2.2.2.2.1, t4, ()))
    else none
   else none
  else none
 else
  some (.inr (.inl (s.1, s.2.2.2.1, s.2.2.2.2.1, s.2.2.2.2.2.1, s.2.2.2.2.2.2.1, ())))
def acH := aQ tW
def acE (s : Int × api_Node × List aq × Int × Int × List aq × Unit) : Option (gC × Unit) :=
 bif decide (0 <= s.1) && decide (s.1 < (List.length s.2.2.2.2.2.1 : Int)) then
  let t0 := (List.set s.2.2.2.2.2.1 (Int.toNat s.1) (true, (false, (1, (s.2.1, ())))))
  match acH (s.1, 0, s.2.1, s.2.2.1, s.2.2.2.1, s.2.2.2.2.1, t0, ()) with
  | none => none
  | some (.inl z1) =>
   some (((z1.2.2.2.2.1, ()), (z1.1, (0, ()))), ())
  | some (.inr z1) =>
   none
 else none

def sV (s : ah × api_Node × Unit) : Option (gC × Unit) :=
 match acF (0, s.1, s.2.1, [], 0, 0, ()) with
 | none => none
 | some (.inl z0) =>
  some ((z0.1, (z0.2.1, (z0.2.2.1, ()))), ())
 | some (.inr z0) =>
  match acG (0, z0.1, z0.2.1, z0.2.2.1, z0.2.2.2.1, z0.2.2.2.2.1, ()) with
  | none => none
  | some (.inl z1) =>
   bif decide (z1.1 >= 4096) then
    some ((z1.2.1, (0, (111, ()))), ())
   else
    match tX (z1.2.1, ()) with
    | none => none
    | some r2 =>
     let t3 := (decide (z1.1 = ((List.length r2.1) : Int)))
     bif t3 then
      bif (decide ((List.length r2.1 + List.length ([(false, (false, (0, (([], ([], ([], ([], ([], ()))))), ()))))] : List aq)) * 136 <= am)) then
       let t4 : List aq := (r2.1 ++ ([(false, (false, (0, (([], ([], ([], ([], ([], ()))))), ()))))] : List aq))
       acE (z1.1, z1.2.2.1, z1.2.2.2.1, z1.2.2.2.2.1, z1.2.2.2.2.2.1, t4, ())
      else none
     else
      acE (z1.1, z1.2.2.1, z1.2.2.2.1, z1.2.2.2.2.1, z1.2.2.2.2.2.1, r2.1, ())
  | some (.inr z1) =>
   none
def yO (s : api_Sum × api_Sum × Unit) : Option (api_Sum × Unit) :=
 let t0 : Int := (if ((IntKind.i64.wrap (s.1.1.1 + s.2.1.1.1)) : Int) < 1000000000000000 then (IntKind.i64.wrap (s.1.1.1 + s.2.1.1.1)) else 1000000000000000)
 let t1 := IntKind.i64.wrap (s.1.1.2.1 + s.2.1.1.2.1)
 let t2 : Int := (if (t1 : Int) < 1000000000000000 then t1 else 1000000000000000)
 let t3 := IntKind.i64.wrap (s.1.2.1.1 + s.2.1.2.1.1)
 let t4 : Int := (if (t3 : Int) < 1000000000000000 then t3 else 1000000000000000)
 let t5 := IntKind.i64.wrap (s.1.2.1.2.1 + s.2.1.2.1.2.1)
 let t6 : Int := (if (t5 : Int) < 1000000000000000 then t5 else 1000000000000000)
 some (((t0, (t2, ())), ((t4, (t6, ())), ())), ())
def yJ (s : List UInt8 × Int × Bool × List UInt8 × Int × Int × List UInt8 × List UInt8 × Int × Int × List UInt8 × Unit) : Option (cD × Unit) :=
 bif s.2.2.1 then
  bif decide ((1 : Int) <= s.2.1) && decide (s.2.1 <= (List.length s.1 : Int)) then
   let t0 := (List.drop (Int.toNat 1) (List.take (Int.toNat s.2.1) s.1))
   some ((t0, (4, (s.2.2.2.2.2.2.2.2.2.1, (s.2.2.2.2.2.2.2.2.2.2.1, ())))), ())
  else none
 else
  some ((s.2.2.2.2.2.2.2.1, (s.2.2.2.2.2.2.2.2.1, (s.2.2.2.2.2.2.2.2.2.1, (s.2.2.2.2.2.2.2.2.2.2.1, ())))), ())
def afs (s : List UInt8 × Int × List UInt8 × Int × Int × List UInt8 × List UInt8 × Int × Int × List UInt8 × Unit) : Option (cD × Unit) :=
 let t0 := decide (s.2.2.2.2.2.2.2.1 = 1)
 bif t0 then
  bif decide (s.2.1 > 0) then
   bif decide ((0 : Int) < (List.length s.1 : Int)) then
    let t1 := (decide ((((List.getD s.1 0 0).toNat : Int) : Int) = 6))
    yJ (s.1, s.2.1, t1, s.2.2.1, s.2.2.2.1, s.2.2.2.2.1, s.2.2.2.2.2.1, s.2.2.2.2.2.2.1, s.2.2.2.2.2.2.2.1, s.2.2.2.2.2.2.2.2.1, s.2.2.2.2.2.2.2.2.2.1, ())
   else none
  else
   yJ (s.1, s.2.1, false, s.2.2.1, s.2.2.2.1, s.2.2.2.2.1, s.2.2.2.2.2.1, s.2.2.2.2.2.2.1, s.2.2.2.2.2.2.2.1, s.2.2.2.2.2.2.2.2.1, s.2.2.2.2.2.2.2.2.2.1, ())
 else
  yJ (s.1, s.2.1, false, s.2.2.1, s.2.2.2.1, s.2.2.2.2.1, s.2.2.2.2.2.1, s.2.2.2.2.2.2.1, s.2.2.2.2.2.2.2.1, s.2.2.2.2.2.2.2.2.1, s.2.2.2.2.2.2.2.2.2.1, ())
def afr (s : List UInt8 × Int × List UInt8 × List UInt8 × Int × Int × List UInt8 × List UInt8 × Int × Int × List UInt8 × Unit) : Option (cD × Unit) :=
 let t0 := decide (s.2.2.2.2.2.2.2.2.1 = 3)
 bif t0 then
  afs (s.1, s.2.1, s.2.2.2.1, s.2.2.2.2.1, s.2.2.2.2.2.1, s.2.2.2.2.2.2.1, s.2.2.2.2.2.2.2.1, s.2.2.2.2.2.2.2.2.1, s.2.2.2.2.2.2.2.2.2.1, s.2.2.1, ())
 else
  afs (s.1, s.2.1, s.2.2.2.1, s.2.2.2.2.1, s.2.2.2.2.2.1, s.2.2.2.2.2.2.1, s.2.2.2.2.2.2.2.1, s.2.2.2.2.2.2.2.2.1, s.2.2.2.2.2.2.2.2.2.1, s.2.2.2.2.2.2.2.2.2.2.1, ())
def aft (s : List UInt8 × Int × List UInt8 × Bool × List UInt8 × Int × Int × List UInt8 × List UInt8 × Int × Int × List UInt8 × Unit) : Option (cD × Unit) :=
 bif s.2.2.2.1 then
  bif decide ((0 : Int) < (List.length s.2.2.1 : Int)) then
   let t0 := IntKind.i64.wrap ((List.getD s.2.2.1 0 0).toNat : Int)
   bif decide ((1 : Int) < (List.length s.2.2.1 : Int)) then
    let t1 : Int := ((List.getD s.2.2.1 (Int.toNat 1) 0).toNat : Int)
    let t2 := (IntKind.i64.wrap ((IntKind.i64.wrap (256 * t0)) + (IntKind.i64.wrap t1)))
    afr (s.1, s.2.1, s.2.2.1, s.2.2.2.2.1, s.2.2.2.2.2.1, s.2.2.2.2.2.2.1, s.2.2.2.2.2.2.2.1, s.2.2.2.2.2.2.2.2.1, s.2.2.2.2.2.2.2.2.2.1, t2, s.2.2.2.2.2.2.2.2.2.2.2.1, ())
   else none
  else none
 else
  afr (s.1, s.2.1, s.2.2.1, s.2.2.2.2.1, s.2.2.2.2.2.1, s.2.2.2.2.2.2.1, s.2.2.2.2.2.2.2.1, s.2.2.2.2.2.2.2.2.1, s.2.2.2.2.2.2.2.2.2.1, s.2.2.2.2.2.2.2.2.2.2.1, s.2.2.2.2.2.2.2.2.2.2.2.1, ())

def alu (s : av) : Option (cD × Unit) :=
 bif decide ((0 : Int) <= s.2.1) && decide (s.2.1 <= (List.length s.1 : Int)) then
  let t0 := (List.drop 0 (List.take (Int.toNat s.2.1) s.1))
  bif decide (0 <= s.2.1) && decide (s.2.1 < (List.length s.1 : Int)) then
   let t1 : Int := ((List.getD s.1 (Int.toNat s.2.1) 0).toNat : Int)
   bif (decide (0 <= (IntKind.i64.wrap (s.2.1 + 1))) && decide (((IntKind.i64.wrap (s.2.1 + 1)) : Int) <= (List.length s.1 : Int)) && decide (((List.length s.1 : Int) : Int) <= (List.length s.1 : Int))) then
    let t2 := (List.drop (Int.toNat (IntKind.i64.wrap (s.2.1 + 1))) (List.take (Int.toNat (List.length s.1 : Int)) s.1))
    let t3 := (decide (((IntKind.i64.wrap t1) : Int) = 2))
    bif t3 then
     let t4 := (decide ((((List.length t2) : Int) : Int) = 2))
     aft (s.1, s.2.1, t2, t4, [], 0, 0, [], t0, (IntKind.i64.wrap t1), 0, [], ())
    else
     aft (s.1, s.2.1, t2, false, [], 0, 0, [], t0, (IntKind.i64.wrap t1), 0, [], ())
   else none
  else none
 else none
def afg (s : R7) : Option (R7 ⊕ ((List UInt8 × (List (List UInt8)) × Unit) ⊕ Unit)) :=
 let t0 := (decide (s.2.2.1 < ((List.length s.1) : Int)))
 bif t0 then
  bif decide (0 <= s.2.2.1) && decide (s.2.2.1 < (List.length s.1 : Int)) then
   let t1 : Int := ((List.getD s.1 (Int.toNat s.2.2.1) 0).toNat : Int)
   bif decide (t1 = 47) then
    bif (decide ((List.length s.2.2.2.1 + List.length ([s.2.1] : List (List UInt8))) * 16 <= am)) then
     let t2 : List (List UInt8) := (s.2.2.2.1 ++ ([s.2.1] : List (List UInt8)))
     some (.inl (s.1, [], (IntKind.i64.wrap (s.2.2.1 + 1)), t2, ()))
    else none
   else
    bif (decide (0 <= s.2.2.1) && decide (s.2.2.1 <= (IntKind.i64.wrap (s.2.2.1 + 1))) && decide (((IntKind.i64.wrap (s.2.2.1 + 1)) : Int) <= (List.length s.1 : Int))) then
     let t2 := (List.drop (Int.toNat s.2.2.1) (List.take (Int.toNat (IntKind.i64.wrap (s.2.2.1 + 1))) s.1))
     bif decide (List.length s.2.1 + List.length t2 <= am) then
      some (.inl (s.1, (s.2.1 ++ t2), (IntKind.i64.wrap (s.2.2.1 + 1)), s.2.2.2.1, ()))
     else none
    else none
  else none
 else
  some (.inr (.inl (s.2.1, s.2.2.2.1, ())))
def afi := aQ afg
def als (s : List UInt8 × Unit) : Option (Bool × (List (List UInt8)) × Unit) :=
 match afi (s.1, [], 0, [], ()) with
 | none => none
 | some (.inl z0) =>
  let t1 := decide ((z0.1 : List UInt8) = [])
  some (t1, z0.2.1, ())
 | some (.inr z0) =>
  none
def ahx (s : av) : Option (av ⊕ ((Bool × Unit) ⊕ Unit)) :=
 let t0 := (decide (s.2.1 < ((List.length s.1) : Int)))
 bif t0 then
  bif decide (0 <= s.2.1) && decide (s.2.1 < (List.length s.1 : Int)) then
   let t1 : Int := ((List.getD s.1 (Int.toNat s.2.1) 0).toNat : Int)
   bif (!(decide (t1 < 33))) then
    bif decide (0 <= s.2.1) && decide (s.2.1 < (List.length s.1 : Int)) then
     let t2 : Int := ((List.getD s.1 (Int.toNat s.2.1) 0).toNat : Int)
     bif (!(decide (t2 > 126))) then
      bif decide (0 <= s.2.1) && decide (s.2.1 < (List.length s.1 : Int)) then
       let t3 : Int := ((List.getD s.1 (Int.toNat s.2.1) 0).toNat : Int)
       bif decide (t3 = 47) then
        some (.inr (.inl (false, ())))
       else
        some (.inl (s.1, (IntKind.i64.wrap (s.2.1 + 1)), ()))
      else none
     else
      some (.inr (.inl (false, ())))
    else none
   else
    some (.inr (.inl (false, ())))
  else none
 else
  some (.inr (.inr (())))
def ahz := aQ ahx
def ait (s : List UInt8 × Unit) : Option (Bool × Unit) :=
 let t0 := (decide ((((List.length s.1) : Int) : Int) < 1))
 bif !t0 then
  let t1 := (decide ((((List.length s.1) : Int) : Int) > 12))
  bif !t1 then
   let t2 := decide ((s.1 : List UInt8) = ([46] : List UInt8))
   bif !t2 then
    let t3 := decide ((s.1 : List UInt8) = ([46, 46] : List UInt8))
    bif t3 then
     some (false, ())
    else
     match ahz (s.1, 0, ()) with
     | none => none
     | some (.inl z4) =>
      some (z4.1, ())
     | some (.inr z4) =>
      some (true, ())
   else
    some (false, ())
  else
   some (false, ())
 else
  some (false, ())
def afn (s : Bool × Int × (List (List UInt8)) × Unit) : Option ((Bool × Int × (List (List UInt8)) × Unit) ⊕ ((Bool × Unit) ⊕ (Bool × Unit))) :=
 let t0 := (decide (s.2.1 < ((List.length s.2.2.1) : Int)))
 bif t0 then
  bif decide (0 <= s.2.1) && decide (s.2.1 < (List.length s.2.2.1 : Int)) then
   let t1 := (List.getD s.2.2.1 (Int.toNat s.2.1) [])
   match ait (t1, ()) with
   | none => none
   | some r2 =>
    bif !r2.1 then
     some (.inr (.inl (false, ())))
    else
     some (.inl (s.1, (IntKind.i64.wrap (s.2.1 + 1)), s.2.2.1, ()))
  else none
 else
  some (.inr (.inr (s.1, ())))
def afp := aQ afn
def vF (s : List UInt8 × Unit) : Option (Bool × Unit) :=
 match als (s.1, ()) with
 | none => none
 | some r0 =>
  match afp (r0.1, 0, r0.2.1, ()) with
  | none => none
  | some (.inl z1) =>
   some (z1.1, ())
  | some (.inr z1) =>
   some (z1.1, ())
def aht (s : Int × List UInt8 × Int × Unit) : Option ((Int × List UInt8 × Int × Unit) ⊕ ((List UInt8 × Unit) ⊕ Unit)) :=
 bif decide (s.2.2.1 < 8) then
  let t0 := IntKind.i64.wrap ((Int.tmod s.1 16) + 1)
  bif (decide (0 <= (Int.tmod s.1 16)) && decide (((Int.tmod s.1 16) : Int) <= t0) && decide (t0 <= (List.length ([48, 49, 50, 51, 52, 53, 54, 55, 56, 57, 97, 98, 99, 100, 101, 102] : List UInt8) : Int))) then
   let t1 := (List.drop (Int.toNat (Int.tmod s.1 16)) (List.take (Int.toNat t0) ([48, 49, 50, 51, 52, 53, 54, 55, 56, 57, 97, 98, 99, 100, 101, 102] : List UInt8)))
   bif decide (List.length t1 + List.length s.2.1 <= am) then
    let t2 := IntKind.i64.wrap (Int.tdiv s.1 16)
    some (.inl (t2, (t1 ++ s.2.1), (IntKind.i64.wrap (s.2.2.1 + 1)), ()))
   else none
  else none
 else
  some (.inr (.inl (s.2.1, ())))
def ahw := aQ aht
def ahv (s : T4) : Option (List UInt8 × Unit) :=
 bif s.2.1 then
  some ([], ())
 else
  match ahw (s.1, [], 0, ()) with
  | none => none
  | some (.inl z0) =>
   bif decide (List.length ([5] : List UInt8) + List.length z0.1 <= am) then
    bif (decide (List.length (([5] : List UInt8) ++ z0.1) + List.length ([47] : List UInt8) <= am)) then
     let t1 : List UInt8 := ((([5] : List UInt8) ++ z0.1) ++ ([47] : List UInt8))
     some (t1, ())
    else none
   else none
  | some (.inr z0) =>
   none

def an4 (s : Int × Unit) : Option (List UInt8 × Unit) :=
 bif (!(decide (s.1 < 0))) then
  let t0 := decide (s.1 > 2147483647)
  ahv (s.1, t0, ())
 else
  ahv (s.1, true, ())
def yI (s : List UInt8 × Int × Int × Int × Bool × Unit) : Option (TP ⊕ (av ⊕ Unit)) :=
 bif s.2.2.2.2.1 then
  let t0 := (IntKind.i64.wrap ((IntKind.i64.wrap (16 * s.2.1)) + s.2.2.2.1))
  some (.inl (s.1, (IntKind.i64.wrap (t0 - 48)), (IntKind.i64.wrap (s.2.2.1 + 1)), ()))
 else
  let t0 := (IntKind.i64.wrap ((IntKind.i64.wrap (16 * s.2.1)) + s.2.2.2.1))
  let t1 := (IntKind.i64.wrap ((IntKind.i64.wrap (t0 - 97)) + 10))
  some (.inl (s.1, t1, (IntKind.i64.wrap (s.2.2.1 + 1)), ()))

def adB (s : TP) : Option (TP ⊕ (av ⊕ Unit)) :=
 bif decide (s.2.2.1 < 9) then
  bif decide (0 <= s.2.2.1) && decide (s.2.2.1 < (List.length s.1 : Int)) then
   let t0 : Int := ((List.getD s.1 (Int.toNat s.2.2.1) 0).toNat : Int)
   let t1 := (decide (((IntKind.i64.wrap t0) : Int) >= 48))
   bif t1 then
    let t2 := (decide (((IntKind.i64.wrap t0) : Int) <= 57))
    yI (s.1, s.2.1, s.2.2.1, (IntKind.i64.wrap t0), t2, ())
   else
    yI (s.1, s.2.1, s.2.2.1, (IntKind.i64.wrap t0), false, ())
  else none
 else
  some (.inr (.inl (s.1, s.2.1, ())))
def adD := aQ adB
def xd (s : List UInt8 × Unit) : Option (Bool × Unit) :=
 let t0 := (!decide ((((List.length s.1) : Int) : Int) = 10))
 bif t0 then
  some (false, ())
 else
  match adD (s.1, 0, 1, ()) with
  | none => none
  | some (.inl z1) =>
   match an4 (z1.2.1, ()) with
   | none => none
   | some r2 =>
    some ((decide ((r2.1 : List UInt8) = z1.1)), ())
  | some (.inr z1) =>
   none
def bg (s : Bool × cD × Unit) : Option ((cD × Unit) ⊕ (Bool × Unit)) :=
 bif s.1 then
  some (.inr (false, ()))
 else
  some (.inl (s.2.1, ()))
def lU (s : cD × Unit) : Option ((Bool × Unit) ⊕ Unit) :=
 bif decide (s.1.2.1 = 4) then
  match vF (s.1.1, ()) with
  | none => none
  | some r0 =>
   some (.inl (r0.1, ()))
 else
  some (.inl (false, ()))
def bR (s : cD × Unit) : Option ((Bool × Unit) ⊕ Unit) :=
 bif decide (s.1.2.1 = 1) then
  some (.inl (true, ()))
 else
  bif decide (s.1.2.1 = 2) then
   bif decide (s.1.2.2.1 >= 0) then
    let t0 := decide (s.1.2.2.1 <= 60000)
    some (.inl (t0, ()))
   else
    some (.inl (false, ()))
  else
   bif decide (s.1.2.1 = 3) then
    match ait (s.1.2.2.2.1, ()) with
    | none => none
    | some r0 =>
     some (.inl (r0.1, ()))
   else
    match lU (s.1, ()) with
    | none => none
    | some (.inl z0) =>
     some (.inl (z0.1, ()))
    | some (.inr z0) =>
     none
def alv (s : cD × Unit) : Option (Bool × Unit) :=
 match vF (s.1.1, ()) with
 | none => none
 | some r0 =>
  bif !r0.1 then
   match xd (s.1.1, ()) with
   | none => none
   | some r1 =>
    bif (!(!r1.1)) then
     bif (!decide (s.1.2.1 = 2)) then
      let t2 := (!decide (s.1.2.2.1 = 0))
      bif !t2 then
       bif (!decide (s.1.2.1 = 3)) then
        let t3 := (!decide ((s.1.2.2.2.1 : List UInt8) = []))
        match bg (t3, s.1, ()) with
        | none => none
        | some (.inl z4) =>
         match bR (z4.1, ()) with
         | none => none
         | some (.inl z5) =>
          some (z5.1, ())
         | some (.inr z5) =>
          none
        | some (.inr z4) =>
         some (z4.1, ())
       else
        match bg (false, s.1, ()) with
        | none => none
        | some (.inl z3) =>
         match bR (z3.1, ()) with
         | none => none
         | some (.inl z4) =>
          some (z4.1, ())
         | some (.inr z4) =>
          none
        | some (.inr z3) =>
         some (z3.1, ())
      else
       match bg (true, s.1, ()) with
       | none => none
       | some (.inl z3) =>
        match bR (z3.1, ()) with
        | none => none
        | some (.inl z4) =>
         some (z4.1, ())
        | some (.inr z4) =>
         none
       | some (.inr z3) =>
        some (z3.1, ())
     else
      bif (!decide (s.1.2.1 = 3)) then
       let t2 := (!decide ((s.1.2.2.2.1 : List UInt8) = []))
       match bg (t2, s.1, ()) with
       | none => none
       | some (.inl z3) =>
        match bR (z3.1, ()) with
        | none => none
        | some (.inl z4) =>
         some (z4.1, ())
        | some (.inr z4) =>
         none
       | some (.inr z3) =>
        some (z3.1, ())
      else
       match bg (false, s.1, ()) with
       | none => none
       | some (.inl z2) =>
        match bR (z2.1, ()) with
        | none => none
        | some (.inl z3) =>
         some (z3.1, ())
        | some (.inr z3) =>
         none
       | some (.inr z2) =>
        some (z2.1, ())
    else
     match bg (true, s.1, ()) with
     | none => none
     | some (.inl z2) =>
      match bR (z2.1, ()) with
      | none => none
      | some (.inl z3) =>
       some (z3.1, ())
      | some (.inr z3) =>
       none
     | some (.inr z2) =>
      some (z2.1, ())
  else
   bif (!decide (s.1.2.1 = 2)) then
    let t1 := (!decide (s.1.2.2.1 = 0))
    bif !t1 then
     bif (!decide (s.1.2.1 = 3)) then
      let t2 := (!decide ((s.1.2.2.2.1 : List UInt8) = []))
      match bg (t2, s.1, ()) with
      | none => none
      | some (.inl z3) =>
       match bR (z3.1, ()) with
       | none => none
       | some (.inl z4) =>
        some (z4.1, ())
       | some (.inr z4) =>
        none
      | some (.inr z3) =>
       some (z3.1, ())
     else
      match bg (false, s.1, ()) with
      | none => none
      | some (.inl z2) =>
       match bR (z2.1, ()) with
       | none => none
       | some (.inl z3) =>
        some (z3.1, ())
       | some (.inr z3) =>
        none
      | some (.inr z2) =>
       some (z2.1, ())
    else
     match bg (true, s.1, ()) with
     | none => none
     | some (.inl z2) =>
      match bR (z2.1, ()) with
      | none => none
      | some (.inl z3) =>
       some (z3.1, ())
      | some (.inr z3) =>
       none
     | some (.inr z2) =>
      some (z2.1, ())
   else
    bif (!decide (s.1.2.1 = 3)) then
     let t1 := (!decide ((s.1.2.2.2.1 : List UInt8) = []))
     match bg (t1, s.1, ()) with
     | none => none
     | some (.inl z2) =>
      match bR (z2.1, ()) with
      | none => none
      | some (.inl z3) =>
       some (z3.1, ())
      | some (.inr z3) =>
       none
     | some (.inr z2) =>
      some (z2.1, ())
    else
     match bg (false, s.1, ()) with
     | none => none
     | some (.inl z1) =>
      match bR (z1.1, ()) with
      | none => none
      | some (.inl z2) =>
       some (z2.1, ())
      | some (.inr z2) =>
       none
     | some (.inr z1) =>
      some (z1.1, ())
def apG (s : cD × Unit) : Option av :=
 match alv (s.1, ()) with
 | none => none
 | some r0 =>
  bif !r0.1 then
   some ([], 12, ())
  else
   bif decide (s.1.2.1 = 1) then
    bif decide (List.length s.1.1 + List.length ([1] : List UInt8) <= am) then
     some ((s.1.1 ++ ([1] : List UInt8)), 0, ())
    else none
   else
    bif decide (s.1.2.1 = 2) then
     bif decide (List.length s.1.1 + List.length ([2] : List UInt8) <= am) then
      let t1 := IntKind.i64.wrap (Int.tdiv s.1.2.2.1 256)
      let t2 := (IntKind.u8.wrap (Int.tmod s.1.2.2.1 256))
      let t3 : List UInt8 := (vK ([(IntKind.u8.wrap t1), t2] : List Int))
      bif (decide (List.length (s.1.1 ++ ([2] : List UInt8)) + List.length t3 <= am)) then
       some (((s.1.1 ++ ([2] : List UInt8)) ++ t3), 0, ())
      else none
     else none
    else
     bif decide (s.1.2.1 = 3) then
      bif decide (List.length s.1.1 + List.length ([3] : List UInt8) <= am) then
       bif (decide (List.length (s.1.1 ++ ([3] : List UInt8)) + List.length s.1.2.2.2.1 <= am)) then
        let t1 : List UInt8 := ((s.1.1 ++ ([3] : List UInt8)) ++ s.1.2.2.2.1)
        some (t1, 0, ())
       else none
      else none
     else
      bif decide (List.length ([6] : List UInt8) + List.length s.1.1 <= am) then
       bif (decide (List.length (([6] : List UInt8) ++ s.1.1) + List.length ([1] : List UInt8) <= am)) then
        let t1 : List UInt8 := ((([6] : List UInt8) ++ s.1.1) ++ ([1] : List UInt8))
        some (t1, 0, ())
       else none
      else none
def zB (s : List UInt8 × Int × Bool × List UInt8 × Int × Int × List UInt8 × Unit) : Option (RZ ⊕ ((Int × cD × Unit) ⊕ cD)) :=
 bif s.2.2.1 then
  some (.inl (s.1, (IntKind.i64.wrap (s.2.1 + 1)), s.2.2.2.1, s.2.2.2.2.1, s.2.2.2.2.2.1, s.2.2.2.2.2.2.1, ()))
 else
  match alu (s.1, s.2.1, ()) with
  | none => none
  | some r0 =>
   match apG (r0.1, ()) with
   | none => none
   | some r1 =>
    bif decide (r1.2.1 = 0) then
     bif decide ((r1.1 : List UInt8) = s.1) then
      some (.inr (.inl (0, r0.1, ())))
     else
      some (.inl (s.1, (IntKind.i64.wrap (s.2.1 + 1)), s.2.2.2.1, s.2.2.2.2.1, s.2.2.2.2.2.1, s.2.2.2.2.2.2.1, ()))
    else
     some (.inl (s.1, (IntKind.i64.wrap (s.2.1 + 1)), s.2.2.2.1, s.2.2.2.2.1, s.2.2.2.2.2.1, s.2.2.2.2.2.2.1, ()))

def afj (s : RZ) : Option (RZ ⊕ ((Int × cD × Unit) ⊕ cD)) :=
 let t0 := (decide (s.2.1 < ((List.length s.1) : Int)))
 bif t0 then
  bif decide (0 <= s.2.1) && decide (s.2.1 < (List.length s.1 : Int)) then
   let t1 : Int := ((List.getD s.1 (Int.toNat s.2.1) 0).toNat : Int)
   bif (!(decide (t1 < 1))) then
    bif decide (0 <= s.2.1) && decide (s.2.1 < (List.length s.1 : Int)) then
     let t2 : Int := ((List.getD s.1 (Int.toNat s.2.1) 0).toNat : Int)
     zB (s.1, s.2.1, (decide (t2 > 3)), s.2.2.1, s.2.2.2.1, s.2.2.2.2.1, s.2.2.2.2.2.1, ())
    else none
   else
    zB (s.1, s.2.1, true, s.2.2.1, s.2.2.2.1, s.2.2.2.2.1, s.2.2.2.2.2.1, ())
  else none
 else
  some (.inr (.inr (s.2.2.1, s.2.2.2.1, s.2.2.2.2.1, s.2.2.2.2.2.1, ())))
def afl := aQ afj
def nD (s : List UInt8 × Unit) : Option (cD × Int × Unit) :=
 match afl (s.1, 0, [], 0, 0, [], ()) with
 | none => none
 | some (.inl z0) =>
  some (z0.2.1, z0.1, ())
 | some (.inr z0) =>
  some (([], (0, (0, ([], ())))), 12, ())
def ko (s : List UInt8 × Unit) : Option (Bool × Unit) :=
 match nD (s.1, ()) with
 | none => none
 | some r0 =>
  bif decide (r0.2.1 = 0) then
   some ((decide (r0.1.2.1 = 1)), ())
  else
   some (false, ())
def kc (s : dS × Int × Unit) : Option sL :=
 let t0 : Int := (if ((IntKind.i64.wrap (s.1.2.1 + s.2.1)) : Int) < 1000000000000000 then (IntKind.i64.wrap (s.1.2.1 + s.2.1)) else 1000000000000000)
 some ((s.1.1, (t0, ())), ())
def nE (s : dS × Int × Unit) : Option sL :=
 let t0 : Int := (if (0 : Int) < (IntKind.i64.wrap (s.1.1 - s.2.1)) then (IntKind.i64.wrap (s.1.1 - s.2.1)) else 0)
 some ((t0, (s.1.2.1, ())), ())
def tT (s : List UInt8 × List UInt8 × Bool × Bool × Unit) : Option (Bool × Unit) :=
 bif !s.2.2.1 then
  bif !s.2.2.2.1 then
   match xd (s.1, ()) with
   | none => none
   | some r0 =>
    bif r0.1 then
     match xd (s.2.1, ()) with
     | none => none
     | some r1 =>
      some (r1.1, ())
    else
     some (false, ())
  else
   some (true, ())
 else
  some (true, ())
def tQ (s : TE) : Option (Bool × Unit) :=
 let t0 := (!decide ((s.1 : List UInt8) = []))
 bif t0 then
  let t1 := (!decide ((s.2.1 : List UInt8) = []))
  bif t1 then
   match vF (s.1, ()) with
   | none => none
   | some r2 =>
    bif r2.1 then
     match vF (s.2.1, ()) with
     | none => none
     | some r3 =>
      tT (s.1, s.2.1, s.2.2.1, r3.1, ())
    else
     tT (s.1, s.2.1, s.2.2.1, false, ())
  else
   tT (s.1, s.2.1, s.2.2.1, false, ())
 else
  tT (s.1, s.2.1, s.2.2.1, false, ())

def ref10_Alike (s : aa) : Option (Bool × Unit) :=
 let t0 := (decide ((((List.length s.1) : Int) : Int) > 0))
 bif t0 then
  bif decide ((0 : Int) < (List.length s.1 : Int)) then
   let t1 := (decide ((((List.getD s.1 0 0).toNat : Int) : Int) = 6))
   bif t1 then
    let t2 := (decide ((((List.length s.2.1) : Int) : Int) > 0))
    bif t2 then
     bif decide ((0 : Int) < (List.length s.2.1 : Int)) then
      let t3 := (decide ((((List.getD s.2.1 0 0).toNat : Int) : Int) = 6))
      tQ (s.1, s.2.1, t3, ())
     else none
    else
     tQ (s.1, s.2.1, false, ())
   else
    tQ (s.1, s.2.1, false, ())
  else none
 else
  tQ (s.1, s.2.1, false, ())
def cu (s : api_Sum × ag × Unit) : Option (api_Sum × Unit) :=
 bif decide (s.2.1.1 = 1) then
  match ko (s.2.1.2.1, ()) with
  | none => none
  | some r0 =>
   bif r0.1 then
    match kc (s.1.1, 1, ()) with
    | none => none
    | some r1 =>
     some ((r1.1, (s.1.2.1, ())), ())
   else
    match nE (s.1.2.1, 64, ()) with
    | none => none
    | some r1 =>
     match kc (r1.1, ((List.length s.2.1.2.2.1) : Int), ()) with
     | none => none
     | some r2 =>
      some ((s.1.1, (r2.1, ())), ())
 else
  bif decide (s.2.1.1 = 2) then
   match ko (s.2.1.2.1, ()) with
   | none => none
   | some r0 =>
    bif r0.1 then
     match nE (s.1.1, 1, ()) with
     | none => none
     | some r1 =>
      some ((r1.1, (s.1.2.1, ())), ())
    else
     match nE (s.1.2.1, 64, ()) with
     | none => none
     | some r1 =>
      some ((s.1.1, (r1.1, ())), ())
  else
   bif decide (s.2.1.1 = 6) then
    some (s.1, ())
   else
    bif decide (s.2.1.1 = 3) then
     some (((0, (s.1.1.2.1, ())), ((0, (s.1.2.1.2.1, ())), ())), ())
    else
     match ref10_Alike (s.2.1.2.2.2.2.1, s.2.1.2.2.2.2.2.1, ()) with
     | none => none
     | some r0 =>
      bif !r0.1 then
       some (((0, (1000000000000000, ())), ((0, (1000000000000000, ())), ())), ())
      else
       bif decide (s.2.1.1 = 5) then
        match kc ((0, (s.1.1.2.1, ())), s.1.1.2.1, ()) with
        | none => none
        | some r1 =>
         match kc ((0, (s.1.2.1.2.1, ())), s.1.2.1.2.1, ()) with
         | none => none
         | some r2 =>
          some ((r1.1, (r2.1, ())), ())
       else
        some (((0, (s.1.1.2.1, ())), ((0, (s.1.2.1.2.1, ())), ())), ())
def qM (s : ae × Unit) : Option sL :=
 match nD (s.1.1, ()) with
 | none => none
 | some r0 =>
  bif (!decide (r0.2.1 = 0)) then
   some ((0, (0, ())), ())
  else
   bif decide (r0.1.2.1 = 1) then
    some ((1, (0, ())), ())
   else
    bif decide (r0.1.2.1 = 2) then
     some ((0, (((List.length s.1.2.1) : Int), ())), ())
    else
     bif decide (r0.1.2.1 = 3) then
      some ((0, (((List.length s.1.2.1) : Int), ())), ())
     else
      some ((0, (0, ())), ())
def iT (s : List ae × Int × Int × Int × Int × Int × Unit) : Option ((List ae × Int × Int × Int × Int × Int × Unit) ⊕ ((Int × Int × Int × Int × Unit) ⊕ Unit)) :=
 let t0 := (decide (s.2.1 < ((List.length s.1) : Int)))
 bif t0 then
  bif decide (0 <= s.2.1) && decide (s.2.1 < (List.length s.1 : Int)) then
   let t1 := (List.getD s.1 (Int.toNat s.2.1) ([], ([], (0, ()))))
   match qM (t1, ()) with
   | none => none
   | some r2 =>
    let t3 := IntKind.i64.wrap (s.2.2.2.2.1 + r2.1.1)
    let t4 := IntKind.i64.wrap (s.2.2.2.2.2.1 + r2.1.2.1)
    some (.inl (s.1, (IntKind.i64.wrap (s.2.1 + 1)), s.2.2.1, s.2.2.2.1, t3, t4, ()))
  else none
 else
  some (.inr (.inl (s.2.2.1, s.2.2.2.1, s.2.2.2.2.1, s.2.2.2.2.2.1, ())))
def tO := aQ iT
def sU (s : List ae × Unit) : Option sL :=
 match tO (s.1, 0, 0, 0, 0, 0, ()) with
 | none => none
 | some (.inl z0) =>
  some ((z0.2.2.1, (z0.2.2.2.1, ())), ())
 | some (.inr z0) =>
  none
def zD (s : sL) : Option (api_Sum × Unit) :=
 some (((s.1.1, (s.1.1, ())), ((s.1.2.1, (s.1.2.1, ())), ())), ())
def mf (s : Tb) : Option (Tb ⊕ ((api_Node × Int × Int × Int × Int × api_Sum × Unit) ⊕ Unit)) :=
 let t0 := (decide (s.1 < ((List.length s.2.1.2.2.2.1) : Int)))
 bif t0 then
  bif decide (0 <= s.1) && decide (s.1 < (List.length s.2.1.2.2.2.1 : Int)) then
   let t1 := (List.getD s.2.1.2.2.2.1 (Int.toNat s.1) ((0, (0, ())), ((0, (0, ())), ())))
   match yO (s.2.2.2.2.2.2.1, t1, ()) with
   | none => none
   | some r2 =>
    some (.inl ((IntKind.i64.wrap (s.1 + 1)), s.2.1, s.2.2.1, s.2.2.2.1, s.2.2.2.2.1, s.2.2.2.2.2.1, r2.1, ()))
  else none
 else
  some (.inr (.inl (s.2.1, s.2.2.1, s.2.2.2.1, s.2.2.2.2.1, s.2.2.2.2.2.1, s.2.2.2.2.2.2.1, ())))
def xe := aQ mf
def mg (s : Tb) : Option (Tb ⊕ ((Int × Int × Int × Int × api_Sum × Unit) ⊕ Unit)) :=
 let t0 := (decide (s.1 < ((List.length s.2.1.2.2.2.2.1) : Int)))
 bif t0 then
  bif decide (0 <= s.1) && decide (s.1 < (List.length s.2.1.2.2.2.2.1 : Int)) then
   let t1 := (List.getD s.2.1.2.2.2.2.1 (Int.toNat s.1) (0, ([], ([], (([], ([], ())), ([], ([], (0, ()))))))))
   match cu (s.2.2.2.2.2.2.1, t1, ()) with
   | none => none
   | some r2 =>
    some (.inl ((IntKind.i64.wrap (s.1 + 1)), s.2.1, s.2.2.1, s.2.2.2.1, s.2.2.2.2.1, s.2.2.2.2.2.1, r2.1, ()))
  else none
 else
  some (.inr (.inl (s.2.2.1, s.2.2.2.1, s.2.2.2.2.1, s.2.2.2.2.2.1, s.2.2.2.2.2.2.1, ())))
def xf := aQ mg
def jt (s : api_Node × Unit) : Option (api_Sum × Unit) :=
 let t0 := (decide ((((List.length s.1.2.2.1) : Int) : Int) = 0))
 bif t0 then
  match sU (s.1.1, ()) with
  | none => none
  | some r1 =>
   match zD (r1.1, ()) with
   | none => none
   | some r2 =>
    some (r2.1, ())
 else
  match xe (0, s.1, 0, 0, 0, 0, ((0, (0, ())), ((0, (0, ())), ())), ()) with
  | none => none
  | some (.inl z1) =>
   match xf (0, z1.1, z1.2.1, z1.2.2.1, z1.2.2.2.1, z1.2.2.2.2.1, z1.2.2.2.2.2.1, ()) with
   | none => none
   | some (.inl z2) =>
    some (z2.2.2.2.2.1, ())
   | some (.inr z2) =>
    none
  | some (.inr z1) =>
   none
def vj (s : Int × List aq × Unit) : Option (Bool × List aq × Unit) :=
 bif decide (s.1 >= 0) then
  let t0 := (decide (s.1 < ((List.length s.2.1) : Int)))
  bif t0 then
   bif decide (0 <= s.1) && decide (s.1 < (List.length s.2.1 : Int)) then
    let t1 := (List.getD s.2.1 (Int.toNat s.1) (false, (false, (0, (([], ([], ([], ([], ([], ()))))), ())))))
    some (t1.1, s.2.1, ())
   else none
  else
   some (false, s.2.1, ())
 else
  some (false, s.2.1, ())
def rP (s : List Int × List aq × List aq × Unit) : Option ((List Int × List aq × List aq × Unit) ⊕ ((List aq × List aq × Unit) ⊕ Unit)) :=
 let t0 := (decide ((((List.length s.1) : Int) : Int) > 0))
 bif t0 then
  bif decide ((0 : Int) < (List.length s.1 : Int)) then
   bif (decide ((1 : Int) <= (List.length s.1 : Int)) && decide (((List.length s.1 : Int) : Int) <= (List.length s.1 : Int))) then
    let t1 := (List.drop (Int.toNat 1) (List.take (Int.toNat (List.length s.1 : Int)) s.1))
    match vj ((List.getD s.1 0 0), s.2.2.1, ()) with
    | none => none
    | some r2 =>
     bif !r2.1 then
      some (.inl (t1, s.2.1, r2.2.1, ()))
     else
      bif (decide (0 <= (List.getD s.1 0 0)) && decide (((List.getD s.1 0 0) : Int) < (List.length r2.2.1 : Int))) then
       let t3 := (List.getD r2.2.1 (Int.toNat (List.getD s.1 0 0)) (false, (false, (0, (([], ([], ([], ([], ([], ()))))), ())))))
       let t4 := IntKind.i64.wrap (t3.2.2.1 - 1)
       bif (decide (0 <= (List.getD s.1 0 0)) && decide (((List.getD s.1 0 0) : Int) < (List.length r2.2.1 : Int))) then
        let t5 := (List.set r2.2.1 (Int.toNat (List.getD s.1 0 0)) ((List.getD r2.2.1 (Int.toNat (List.getD s.1 0 0)) (false, (false, (0, (([], ([], ([], ([], ([], ()))))), ()))))).1, ((List.getD r2.2.1 (Int.toNat (List.getD s.1 0 0)) (false, (false, (0, (([], ([], ([], ([], ([], ()))))), ()))))).2.1, (t4, (List.getD r2.2.1 (Int.toNat (List.getD s.1 0 0)) (false, (false, (0, (([], ([], ([], ([], ([], ()))))), ()))))).2.2.2))))
        bif (decide (0 <= (List.getD s.1 0 0)) && decide (((List.getD s.1 0 0) : Int) < (List.length t5 : Int))) then
         let t6 := (List.getD t5 (Int.toNat (List.getD s.1 0 0)) (false, (false, (0, (([], ([], ([], ([], ([], ()))))), ())))))
         bif decide (t6.2.2.1 = 0) then
          bif (decide ((List.length ([] : List Int) + List.length t1) * 8 <= am)) then
           bif (decide (0 <= (List.getD s.1 0 0)) && decide (((List.getD s.1 0 0) : Int) < (List.length t5 : Int))) then
            let t7 := (List.getD t5 (Int.toNat (List.getD s.1 0 0)) (false, (false, (0, (([], ([], ([], ([], ([], ()))))), ())))))
            bif (decide ((List.length ([] ++ t1) + List.length t7.2.2.2.1.2.2.1) * 8 <= am)) then
             let t8 : List Int := (([] ++ t1) ++ t7.2.2.2.1.2.2.1)
             bif (decide (0 <= (List.getD s.1 0 0)) && decide (((List.getD s.1 0 0) : Int) < (List.length t5 : Int))) then
              let t9 := (List.set t5 (Int.toNat (List.getD s.1 0 0)) (false, (false, (0, (([], ([], ([], ([], ([], ()))))), ())))))
              some (.inl (t8, s.2.1, t9, ()))
             else none
            else none
           else none
          else none
         else
          some (.inl (t1, s.2.1, t5, ()))
        else none
       else none
      else none
   else none
  else none
 else
  some (.inr (.inl (s.2.1, s.2.2.1, ())))
def aa2 := aQ rP
def uM (s : aO) : Option aO :=
 match uN (s.1, s.2.1, ()) with
 | none => none
 | some r0 =>
  bif !r0.1 then
   some (s.1, 110, ())
  else
   match tX (s.1, ()) with
   | none => none
   | some r1 =>
    match aa2 (([s.2.1] : List Int), [], r1.1, ()) with
    | none => none
    | some (.inl z2) =>
     some ((z2.2.1, ()), 0, ())
    | some (.inr z2) =>
     none
def xp (s : aO) : Option (Bool × Unit) :=
 bif decide (s.2.1 >= 0) then
  let t0 := (decide (s.2.1 < ((List.length s.1.1) : Int)))
  bif t0 then
   bif decide (0 <= s.2.1) && decide (s.2.1 < (List.length s.1.1 : Int)) then
    let t1 := (List.getD s.1.1 (Int.toNat s.2.1) (false, (false, (0, (([], ([], ([], ([], ([], ()))))), ())))))
    some (t1.1, ())
   else none
  else
   some (false, ())
 else
  some (false, ())
def oc (s : aO) : Option (api_Node × Int × Unit) :=
 match xp (s.1, s.2.1, ()) with
 | none => none
 | some r0 =>
  bif !r0.1 then
   some (([], ([], ([], ([], ([], ()))))), 110, ())
  else
   bif decide (0 <= s.2.1) && decide (s.2.1 < (List.length s.1.1 : Int)) then
    let t1 := (List.getD s.1.1 (Int.toNat s.2.1) (false, (false, (0, (([], ([], ([], ([], ([], ()))))), ())))))
    bif t1.2.1 then
     some (([], ([], ([], ([], ([], ()))))), 112, ())
    else
     bif decide (0 <= s.2.1) && decide (s.2.1 < (List.length s.1.1 : Int)) then
      let t2 := (List.getD s.1.1 (Int.toNat s.2.1) (false, (false, (0, (([], ([], ([], ([], ([], ()))))), ())))))
      some (t2.2.2.2.1, 0, ())
     else none
   else none
def ld (s : List UInt8 × Unit) : Option (Bool × Unit) :=
 some ((!decide ((s.1 : List UInt8) = s.1)), ())
def pR (s : aa) : Option (Int × Unit) :=
 match ld (s.1, ()) with
 | none => none
 | some r0 =>
  match ld (s.2.1, ()) with
  | none => none
  | some r1 =>
   bif r0.1 then
    bif r1.1 then
     some (0, ())
    else
     some ((-1 : Int), ())
   else
    bif r1.1 then
     some (1, ())
    else
     bif (Op.bytesLess s.1 s.2.1) then
      some ((-1 : Int), ())
     else
      let t2 := (!(Op.bytesLess s.1 s.2.1 || decide ((s.1 : List UInt8) = s.2.1)))
      bif t2 then
       some (1, ())
      else
       some (0, ())
def fC (s : aa) : Option (Int × Unit) :=
 bif decide ((s.1 : List UInt8) = s.2.1) then
  some (0, ())
 else
  let t0 := decide ((s.1 : List UInt8) = [])
  bif t0 then
   some (1, ())
  else
   let t1 := decide ((s.2.1 : List UInt8) = [])
   bif t1 then
    some ((-1 : Int), ())
   else
    match pR (s.1, s.2.1, ()) with
    | none => none
    | some r2 =>
     some (r2.1, ())
def kt (s : (List (List UInt8)) × List UInt8 × Int × Unit) : Option (((List (List UInt8)) × List UInt8 × Int × Unit) ⊕ ((List UInt8 × Unit) ⊕ Unit)) :=
 let t0 := (decide (s.2.2.1 < ((List.length s.1) : Int)))
 bif t0 then
  bif decide (0 <= s.2.2.1) && decide (s.2.2.1 < (List.length s.1 : Int)) then
   let t1 := (List.getD s.1 (Int.toNat s.2.2.1) [])
   match fC (t1, s.2.1, ()) with
   | none => none
   | some r2 =>
    bif decide (r2.1 < 0) then
     bif decide (0 <= s.2.2.1) && decide (s.2.2.1 < (List.length s.1 : Int)) then
      let t3 := (List.getD s.1 (Int.toNat s.2.2.1) [])
      some (.inl (s.1, t3, (IntKind.i64.wrap (s.2.2.1 + 1)), ()))
     else none
    else
     some (.inl (s.1, s.2.1, (IntKind.i64.wrap (s.2.2.1 + 1)), ()))
  else none
 else
  some (.inr (.inl (s.2.1, ())))
def kv := aQ kt
def mh (s : (List (List UInt8)) × Unit) : Option (List UInt8 × Unit) :=
 let t0 := (decide ((((List.length s.1) : Int) : Int) < 1))
 bif t0 then
  none
 else
  bif decide ((0 : Int) < (List.length s.1 : Int)) then
   match kv (s.1, (List.getD s.1 0 []), 1, ()) with
   | none => none
   | some (.inl z1) =>
    some (z1.1, ())
   | some (.inr z1) =>
    none
  else none
def aog (s : (List (List UInt8)) × Unit) : Option (List UInt8 × Unit) :=
 match mh (s.1, ()) with
 | none => none
 | some r0 =>
  some (r0.1, ())
def jD (s : aa × Unit) : Option (Bool × Unit) :=
 let t0 := (!decide ((s.1.2.1 : List UInt8) = []))
 bif t0 then
  let t1 := (Op.bytesLess s.1.2.1 s.1.1 || decide ((s.1.2.1 : List UInt8) = s.1.1))
  some (t1, ())
 else
  some (false, ())
def xt (s : T5) : Option (aa × Unit) :=
 let t0 : List UInt8 := (bif !(Op.bytesLess s.1.1 s.2.1.1) then s.1.1 else s.2.1.1)
 match aog (([s.1.2.1, s.2.1.2.1] : List (List UInt8)), ()) with
 | none => none
 | some r1 =>
  match jD ((t0, (r1.1, ())), ()) with
  | none => none
  | some r2 =>
   bif r2.1 then
    some ((([97] : List UInt8), (([97] : List UInt8), ())), ())
   else
    some ((t0, (r1.1, ())), ())
def ahH (s : RX) : Option (RX ⊕ ((List UInt8 × aa × List aa × Unit) ⊕ Unit)) :=
 bif decide (s.2.2.2.1 < s.2.2.1) then
  bif decide (0 <= s.2.2.2.1) && decide (s.2.2.2.1 < (List.length s.2.1 : Int)) then
   let t0 := (List.getD s.2.1 (Int.toNat s.2.2.2.1) [])
   match xt (s.2.2.2.2.1, (s.1, (t0, ())), ()) with
   | none => none
   | some r1 =>
    bif (decide ((List.length s.2.2.2.2.2.1 + List.length ([r1.1] : List aa)) * 32 <= am)) then
     let t2 : List aa := (s.2.2.2.2.2.1 ++ ([r1.1] : List aa))
     let t3 := IntKind.i64.wrap (s.2.2.2.1 + 1)
     some (.inl (t0, s.2.1, s.2.2.1, t3, s.2.2.2.2.1, t2, ()))
    else none
  else none
 else
  some (.inr (.inl (s.1, s.2.2.2.2.1, s.2.2.2.2.2.1, ())))
def ahJ := aQ ahH
def span_Parts (s : aa × (List (List UInt8)) × Unit) : Option (List aa × Unit) :=
 match ahJ ([], s.2.1, ((List.length s.2.1) : Int), 0, s.1, [], ()) with
 | none => none
 | some (.inl z0) =>
  match xt (z0.2.1, (z0.1, ([], ())), ()) with
  | none => none
  | some r1 =>
   bif (decide ((List.length z0.2.2.1 + List.length ([r1.1] : List aa)) * 32 <= am)) then
    let t2 : List aa := (z0.2.2.1 ++ ([r1.1] : List aa))
    some (t2, ())
   else none
 | some (.inr z0) =>
  none
def yB (s : TX) : Option (List aa × Unit) :=
 let t0 := (decide ((((List.length s.1.2.2.1) : Int) : Int) = 0))
 bif t0 then
  some ([], ())
 else
  match span_Parts (s.2.1, s.1.2.1, ()) with
  | none => none
  | some r1 =>
   some (r1.1, ())
def yS (s : List UInt8 × Unit) : Option (aa × Unit) :=
 bif decide (List.length s.1 + List.length ([0] : List UInt8) <= am) then
  some ((s.1, ((s.1 ++ ([0] : List UInt8)), ())), ())
 else none
def yw (s : ag × Unit) : Option (List aa × Unit) :=
 match yS (s.1.2.1, ()) with
 | none => none
 | some r0 =>
  some (([r0.1] : List aa), ())
def yn (s : ag × Unit) : Option (List aa × Unit) :=
 match yS (s.1.2.1, ()) with
 | none => none
 | some r0 =>
  some (([r0.1] : List aa), ())
def ws (s : ag × Unit) : Option (List aa × Unit) :=
 some (([s.1.2.2.2.1] : List aa), ())
def zH (s : List UInt8 × Bool × List UInt8 × List UInt8 × List Int × Unit) : Option (Td ⊕ (Td ⊕ Unit)) :=
 bif s.2.1 then
  let t0 := (IntKind.i64.wrap (((List.length s.2.2.2.2.1) : Int) - 1))
  bif decide ((0 : Int) <= t0) && decide (t0 <= (List.length s.2.2.2.2.1 : Int)) then
   some (.inl (s.1, s.2.2.1, s.2.2.2.1, (List.take (Int.toNat t0) s.2.2.2.2.1), ()))
  else none
 else
  some (.inr (.inl (s.1, s.2.2.1, s.2.2.2.1, s.2.2.2.2.1, ())))

def af3 (s : Td) : Option (Td ⊕ (Td ⊕ Unit)) :=
 let t0 := (decide ((((List.length s.2.2.2.1) : Int) : Int) > 0))
 bif t0 then
  let t1 := (IntKind.i64.wrap (((List.length s.2.2.2.1) : Int) - 1))
  bif decide (0 <= t1) && decide (t1 < (List.length s.2.2.2.1 : Int)) then
   let t2 := (List.getD s.2.2.2.1 (Int.toNat t1) 0)
   zH (s.1, (decide (t2 = 255)), s.2.1, s.2.2.1, s.2.2.2.1, ())
  else none
 else
  zH (s.1, false, s.2.1, s.2.2.1, s.2.2.2.1, ())
def af5 := aQ af3
def eG (s : List UInt8 × Unit) : Option (aa × Unit) :=
 bif decide (List.length s.1 <= am) then
  match af5 (s.1, [], [], (fv s.1), ()) with
  | none => none
  | some (.inl z0) =>
   let t1 := (decide ((((List.length z0.2.2.2.1) : Int) : Int) > 0))
   bif t1 then
    let t2 := (IntKind.i64.wrap (((List.length z0.2.2.2.1) : Int) - 1))
    bif decide (0 <= t2) && decide (t2 < (List.length z0.2.2.2.1 : Int)) then
     let t3 := (List.getD z0.2.2.2.1 (Int.toNat t2) 0)
     bif decide (0 <= t2) && decide (t2 < (List.length z0.2.2.2.1 : Int)) then
      let t4 := (List.set z0.2.2.2.1 (Int.toNat t2) (IntKind.u8.wrap (t3 + 1)))
      some ((z0.1, ((vK t4), ())), ())
     else none
    else none
   else
    some ((z0.1, ((vK z0.2.2.2.1), ())), ())
  | some (.inr z0) =>
   none
 else none
def wt (s : ag × Unit) : Option (List aa × Unit) :=
 match eG (s.1.2.2.2.2.1, ()) with
 | none => none
 | some r0 =>
  match eG (s.1.2.2.2.2.2.1, ()) with
  | none => none
  | some r1 =>
   some (([r0.1, r1.1] : List aa), ())
def uI (s : ag × Unit) : Option (List aa × Unit) :=
 match eG (s.1.2.2.2.2.2.1, ()) with
 | none => none
 | some r0 =>
  some (([r0.1] : List aa), ())
def uJ (s : ag × Unit) : Option (List aa × Unit) :=
 some (([s.1.2.2.2.1] : List aa), ())
def nX (s : ag × Unit) : Option (List aa × Unit) :=
 bif decide (s.1.1 = 1) then
  match yw (s.1, ()) with
  | none => none
  | some r0 =>
   some (r0.1, ())
 else
  bif decide (s.1.1 = 2) then
   match yn (s.1, ()) with
   | none => none
   | some r0 =>
    some (r0.1, ())
  else
   bif decide (s.1.1 = 3) then
    match ws (s.1, ()) with
    | none => none
    | some r0 =>
     some (r0.1, ())
   else
    bif decide (s.1.1 = 4) then
     match wt (s.1, ()) with
     | none => none
     | some r0 =>
      some (r0.1, ())
    else
     bif decide (s.1.1 = 5) then
      match uI (s.1, ()) with
      | none => none
      | some r0 =>
       some (r0.1, ())
     else
      bif decide (s.1.1 = 6) then
       match uJ (s.1, ()) with
       | none => none
       | some r0 =>
        some (r0.1, ())
      else
       some ([], ())
def tb (s : api_Node × Unit) : Option (Bool × Unit) :=
 let t0 := (decide ((((List.length s.1.2.2.1) : Int) : Int) = 0))
 some (t0, ())
def mU (s : aa) : Option (Int × Unit) := some ((fun a b => Lib.compareBytes a b) s.1 s.2.1, ())
def adJ (s : aa) : Option (Int × Unit) :=
 match mU (s.1, s.2.1, ()) with
 | none => none
 | some r0 =>
  some (r0.1, ())
def aaA (s : ae × List UInt8 × Unit) : Option (Int × Unit) :=
 match adJ (s.1.1, s.2.1, ()) with
 | none => none
 | some r0 =>
  some (r0.1, ())
def dw (s : List ae × List UInt8 × Int × Int × Int × Unit) : Option ((List ae × List UInt8 × Int × Int × Int × Unit) ⊕ ((List ae × List UInt8 × Int × Int × Unit) ⊕ Unit)) :=
 let t0 := decide (s.2.2.2.1 < s.2.2.2.2.1)
 bif t0 then
  let t1 := IntKind.i64.wrap (s.2.2.2.1 + s.2.2.2.2.1)
  let t2 : Int := (Int.fdiv (IntKind.u64.wrap t1) (2 ^ (min (Int.toNat 1) IntKind.u64.bits)))
  bif (decide (0 <= (IntKind.i64.wrap t2)) && decide (((IntKind.i64.wrap t2) : Int) < (List.length s.1 : Int))) then
   let t3 := (List.getD s.1 (Int.toNat (IntKind.i64.wrap t2)) ([], ([], (0, ()))))
   match aaA (t3, s.2.1, ()) with
   | none => none
   | some r4 =>
    bif decide (r4.1 < 0) then
     let t5 := IntKind.i64.wrap ((IntKind.i64.wrap t2) + 1)
     some (.inl (s.1, s.2.1, s.2.2.1, t5, s.2.2.2.2.1, ()))
    else
     some (.inl (s.1, s.2.1, s.2.2.1, s.2.2.2.1, (IntKind.i64.wrap t2), ()))
  else none
 else
  some (.inr (.inl (s.1, s.2.1, s.2.2.1, s.2.2.2.1, ())))
def dz := aQ dw
def ej (s : TQ) : Option T4 :=
 match dz (s.1, s.2.1, ((List.length s.1) : Int), 0, ((List.length s.1) : Int), ()) with
 | none => none
 | some (.inl z0) =>
  bif decide (z0.2.2.2.1 < z0.2.2.1) then
   bif decide (0 <= z0.2.2.2.1) && decide (z0.2.2.2.1 < (List.length z0.1 : Int)) then
    let t1 := (List.getD z0.1 (Int.toNat z0.2.2.2.1) ([], ([], (0, ()))))
    match aaA (t1, z0.2.1, ()) with
    | none => none
    | some r2 =>
     some (z0.2.2.2.1, (decide (r2.1 = 0)), ())
   else none
  else
   some (z0.2.2.2.1, false, ())
 | some (.inr z0) =>
  none
def vW (s : TQ) : Option T4 :=
 match ej (s.1, s.2.1, ()) with
 | none => none
 | some r0 =>
  some (r0.1, r0.2.1, ())
def aom (s : TQ) : Option (ae × Bool × Unit) :=
 match vW (s.1, s.2.1, ()) with
 | none => none
 | some r0 =>
  bif r0.2.1 then
   bif decide (0 <= r0.1) && decide (r0.1 < (List.length s.1 : Int)) then
    let t1 := (List.getD s.1 (Int.toNat r0.1) ([], ([], (0, ()))))
    some (t1, true, ())
   else none
  else
   some (([], ([], (0, ()))), false, ())
def gH (s : List ag × Unit) : Option (List ag × Unit) :=
 some (s.1, ())
def uh (s : aa × List UInt8 × Unit) : Option (Bool × Unit) :=
 bif (!(Op.bytesLess s.2.1 s.1.1)) then
  let t0 := decide ((s.1.2.1 : List UInt8) = [])
  bif !t0 then
   some ((Op.bytesLess s.2.1 s.1.2.1), ())
  else
   some (true, ())
 else
  some (false, ())
def afJ (s : Int × Bool × Bool × List UInt8 × List UInt8 × Int × List UInt8 × Bool × Int × Unit) : Option (Bool × Bool × List UInt8 × List UInt8 × Int × List UInt8 × Bool × Int × Unit) :=
 bif !s.2.2.2.2.2.2.2.1 then
  some (s.2.1, s.2.2.1, s.2.2.2.1, s.2.2.2.2.1, s.2.2.2.2.2.1, s.2.2.2.2.2.2.1, true, s.1, ())
 else
  some (s.2.1, s.2.2.1, s.2.2.2.1, s.2.2.2.2.1, s.2.2.2.2.2.1, s.2.2.2.2.2.2.1, s.2.2.2.2.2.2.2.1, s.2.2.2.2.2.2.2.2.1, ())
def ahP (s : RM) : Option (Bool × Bool × Bool × List UInt8 × List UInt8 × Int × List UInt8 × Bool × Int × Unit) :=
 match uh (s.1.2.2.2.1, s.2.2.2.2.2.2.1, ()) with
 | none => none
 | some r0 =>
  bif r0.1 then
   match afJ (s.1.2.2.2.2.2.2.1, s.2.1, s.2.2.1, s.2.2.2.1, s.2.2.2.2.1, s.2.2.2.2.2.1, s.2.2.2.2.2.2.1, s.2.2.2.2.2.2.2.1, s.2.2.2.2.2.2.2.2.1, ()) with
   | none => none
   | some r1 =>
    some (false, r1.1, r1.2.1, r1.2.2.1, r1.2.2.2.1, r1.2.2.2.2.1, r1.2.2.2.2.2.1, r1.2.2.2.2.2.2.1, r1.2.2.2.2.2.2.2.1, ())
  else
   some (false, s.2.1, s.2.2.1, s.2.2.2.1, s.2.2.2.2.1, s.2.2.2.2.2.1, s.2.2.2.2.2.2.1, s.2.2.2.2.2.2.2.1, s.2.2.2.2.2.2.2.2.1, ())
def bV (s : aa) : Option (Bool × Unit) :=
 let t0 := (decide ((((List.length s.1) : Int) : Int) >= ((List.length s.2.1) : Int)))
 bif t0 then
  bif (decide ((0 : Int) <= ((List.length s.2.1) : Int)) && decide ((((List.length s.2.1) : Int) : Int) <= (List.length s.1 : Int))) then
   let t1 := (List.drop 0 (List.take (Int.toNat ((List.length s.2.1) : Int)) s.1))
   some ((decide ((t1 : List UInt8) = s.2.1)), ())
  else none
 else
  some (false, ())
def mV (s : aa) : Option TW :=
 match bV (s.1, s.2.1, ()) with
 | none => none
 | some r0 =>
  bif !r0.1 then
   some (s.1, false, ())
  else
   bif (decide (0 <= ((List.length s.2.1) : Int)) && decide ((((List.length s.2.1) : Int) : Int) <= (List.length s.1 : Int)) && decide (((List.length s.1 : Int) : Int) <= (List.length s.1 : Int))) then
    let t1 := (List.drop (Int.toNat ((List.length s.2.1) : Int)) (List.take (Int.toNat (List.length s.1 : Int)) s.1))
    some (t1, true, ())
   else none
def uj (s : aa) : Option TW :=
 match mV (s.1, s.2.1, ()) with
 | none => none
 | some r0 =>
  some (r0.1, r0.2.1, ())
def yR (s : List UInt8 × List UInt8 × List UInt8 × Unit) : Option TW :=
 match uj (s.1, s.2.1, ()) with
 | none => none
 | some r0 =>
  bif !r0.2.1 then
   some ([], false, ())
  else
   bif decide (List.length s.2.2.1 + List.length r0.1 <= am) then
    some ((s.2.2.1 ++ r0.1), true, ())
   else none
def ai4 (s : RM) : Option (Bool × Bool × Bool × List UInt8 × List UInt8 × Int × List UInt8 × Bool × Int × Unit) :=
 match yR (s.2.2.2.2.2.2.1, s.1.2.2.2.2.2.1, s.1.2.2.2.2.1, ()) with
 | none => none
 | some r0 =>
  bif r0.2.1 then
   some (false, s.2.1, s.2.2.1, s.2.2.2.1, s.2.2.2.2.1, s.2.2.2.2.2.1, r0.1, s.2.2.2.2.2.2.2.1, s.2.2.2.2.2.2.2.2.1, ())
  else
   some (false, s.2.1, s.2.2.1, s.2.2.2.1, s.2.2.2.2.1, s.2.2.2.2.2.1, s.2.2.2.2.2.2.1, s.2.2.2.2.2.2.2.1, s.2.2.2.2.2.2.2.2.1, ())
def mq (s : aa) : Option (Bool × Unit) :=
 match bV (s.1, s.2.1, ()) with
 | none => none
 | some r0 =>
  some (r0.1, ())
def ahO (s : RM) : Option (Bool × Bool × Bool × List UInt8 × List UInt8 × Int × List UInt8 × Bool × Int × Unit) :=
 match mq (s.2.2.2.2.2.2.1, s.1.2.2.2.2.1, ()) with
 | none => none
 | some r0 =>
  bif !r0.1 then
   match ai4 (s.1, s.2.1, s.2.2.1, s.2.2.2.1, s.2.2.2.2.1, s.2.2.2.2.2.1, s.2.2.2.2.2.2.1, s.2.2.2.2.2.2.2.1, s.2.2.2.2.2.2.2.2.1, ()) with
   | none => none
   | some r1 =>
    some (r1.1, r1.2.1, r1.2.2.1, r1.2.2.2.1, r1.2.2.2.2.1, r1.2.2.2.2.2.1, r1.2.2.2.2.2.2.1, r1.2.2.2.2.2.2.2.1, r1.2.2.2.2.2.2.2.2.1, ())
  else
   some (true, s.2.1, s.2.2.1, s.2.2.2.1, s.2.2.2.2.1, s.2.2.2.2.2.1, s.2.2.2.2.2.2.1, s.2.2.2.2.2.2.2.1, s.2.2.2.2.2.2.2.2.1, ())
def ahN (s : RM) : Option (Bool × Bool × Bool × List UInt8 × List UInt8 × Int × List UInt8 × Bool × Int × Unit) :=
 match uh (s.1.2.2.2.1, s.2.2.2.2.2.2.1, ()) with
 | none => none
 | some r0 =>
  some (r0.1, s.2.1, s.2.2.1, s.2.2.2.1, s.2.2.2.2.1, s.2.2.2.2.2.1, s.2.2.2.2.2.2.1, s.2.2.2.2.2.2.2.1, s.2.2.2.2.2.2.2.2.1, ())
def ahM (s : RM) : Option (Bool × Bool × Bool × List UInt8 × List UInt8 × Int × List UInt8 × Bool × Int × Unit) :=
 let t0 := decide ((s.1.2.1 : List UInt8) = s.2.2.2.2.2.2.1)
 some (t0, s.2.1, s.2.2.1, s.2.2.2.1, s.2.2.2.2.1, s.2.2.2.2.2.1, s.2.2.2.2.2.2.1, s.2.2.2.2.2.2.2.1, s.2.2.2.2.2.2.2.2.1, ())
def ahL (s : RM) : Option (Bool × Bool × Bool × List UInt8 × List UInt8 × Int × List UInt8 × Bool × Int × Unit) :=
 let t0 := (!decide ((s.1.2.1 : List UInt8) = s.2.2.2.2.2.2.1))
 bif t0 then
  some (false, s.2.1, s.2.2.1, s.2.2.2.1, s.2.2.2.2.1, s.2.2.2.2.2.1, s.2.2.2.2.2.2.1, s.2.2.2.2.2.2.2.1, s.2.2.2.2.2.2.2.2.1, ())
 else
  match afJ (s.1.2.2.2.2.2.2.1, s.2.1, s.2.2.1, s.2.2.2.1, s.2.2.2.2.1, s.2.2.2.2.2.1, s.2.2.2.2.2.2.1, s.2.2.2.2.2.2.2.1, s.2.2.2.2.2.2.2.2.1, ()) with
  | none => none
  | some r1 =>
   some (true, r1.1, true, r1.2.2.1, s.1.2.2.1, r1.2.2.2.2.2.2.2.1, r1.2.2.2.2.2.1, r1.2.2.2.2.2.2.1, r1.2.2.2.2.2.2.2.1, ())
def gn (s : RF) : Option RF :=
 bif s.1 then
  bif decide (s.2.1 = -1) then
   some (true, 0, s.2.2.1, s.2.2.2.1, s.2.2.2.2.1, s.2.2.2.2.2.1, s.2.2.2.2.2.2.1, s.2.2.2.2.2.2.2.1, s.2.2.2.2.2.2.2.2.1, s.2.2.2.2.2.2.2.2.2.1, s.2.2.2.2.2.2.2.2.2.2.1, s.2.2.2.2.2.2.2.2.2.2.2.1, s.2.2.2.2.2.2.2.2.2.2.2.2.1, s.2.2.2.2.2.2.2.2.2.2.2.2.2.1, s.2.2.2.2.2.2.2.2.2.2.2.2.2.2.1, s.2.2.2.2.2.2.2.2.2.2.2.2.2.2.2.1, s.2.2.2.2.2.2.2.2.2.2.2.2.2.2.2.2.1, s.2.2.2.2.2.2.2.2.2.2.2.2.2.2.2.2.2.1, ())
  else none
 else
  bif s.2.2.2.1 then
   bif decide (s.2.1 = -1) then
    some (false, 1, s.2.2.1, s.2.2.2.1, s.2.2.2.2.1, s.2.2.2.2.2.1, s.2.2.2.2.2.2.1, s.2.2.2.2.2.2.2.1, s.2.2.2.2.2.2.2.2.1, s.2.2.2.2.2.2.2.2.2.1, true, true, s.2.2.2.2.1, s.2.2.2.2.2.1, s.2.2.2.2.2.2.1, [], false, 0, ())
   else none
  else
   bif decide (s.2.1 = -1) then
    some (false, 1, s.2.2.1, s.2.2.2.1, s.2.2.2.2.1, s.2.2.2.2.2.1, s.2.2.2.2.2.2.1, s.2.2.2.2.2.2.2.1, s.2.2.2.2.2.2.2.2.1, s.2.2.2.2.2.2.2.2.2.1, true, false, [], [], 0, [], false, 0, ())
   else none

def uT (s : Int × ag × Int × Bool × Bool × List UInt8 × List UInt8 × Int × List UInt8 × Bool × Int × Bool × Bool × List UInt8 × List UInt8 × Int × List UInt8 × Bool × Int × Unit) : Option RF :=
 bif decide (s.2.2.1 = 0) then
  bif decide (s.2.2.1 = 0) then
   bif decide (0 <= s.2.1.1) && decide (s.2.1.1 < 7) then
    bif (Nat.beq (Int.toNat s.2.1.1) 6) then
     match ahP (s.2.1, s.2.2.2.1, s.2.2.2.2.1, s.2.2.2.2.2.1, s.2.2.2.2.2.2.1, s.2.2.2.2.2.2.2.1, s.2.2.2.2.2.2.2.2.1, s.2.2.2.2.2.2.2.2.2.1, s.2.2.2.2.2.2.2.2.2.2.1, ()) with
     | none => none
     | some r0 =>
      gn ((!r0.1), (-1 : Int), r0.2.1, r0.2.2.1, r0.2.2.2.1, r0.2.2.2.2.1, r0.2.2.2.2.2.1, r0.2.2.2.2.2.2.1, r0.2.2.2.2.2.2.2.1, r0.2.2.2.2.2.2.2.2.1, s.2.2.2.2.2.2.2.2.2.2.2.1, s.2.2.2.2.2.2.2.2.2.2.2.2.1, s.2.2.2.2.2.2.2.2.2.2.2.2.2.1, s.2.2.2.2.2.2.2.2.2.2.2.2.2.2.1, s.2.2.2.2.2.2.2.2.2.2.2.2.2.2.2.1, s.2.2.2.2.2.2.2.2.2.2.2.2.2.2.2.2.1, s.2.2.2.2.2.2.2.2.2.2.2.2.2.2.2.2.2.1, s.2.2.2.2.2.2.2.2.2.2.2.2.2.2.2.2.2.2.1, ())
    else
     bif (Nat.beq (Int.toNat s.2.1.1) 5) then
      match ai4 (s.2.1, s.2.2.2.1, s.2.2.2.2.1, s.2.2.2.2.2.1, s.2.2.2.2.2.2.1, s.2.2.2.2.2.2.2.1, s.2.2.2.2.2.2.2.2.1, s.2.2.2.2.2.2.2.2.2.1, s.2.2.2.2.2.2.2.2.2.2.1, ()) with
      | none => none
      | some r0 =>
       gn ((!r0.1), (-1 : Int), r0.2.1, r0.2.2.1, r0.2.2.2.1, r0.2.2.2.2.1, r0.2.2.2.2.2.1, r0.2.2.2.2.2.2.1, r0.2.2.2.2.2.2.2.1, r0.2.2.2.2.2.2.2.2.1, s.2.2.2.2.2.2.2.2.2.2.2.1, s.2.2.2.2.2.2.2.2.2.2.2.2.1, s.2.2.2.2.2.2.2.2.2.2.2.2.2.1, s.2.2.2.2.2.2.2.2.2.2.2.2.2.2.1, s.2.2.2.2.2.2.2.2.2.2.2.2.2.2.2.1, s.2.2.2.2.2.2.2.2.2.2.2.2.2.2.2.2.1, s.2.2.2.2.2.2.2.2.2.2.2.2.2.2.2.2.2.1, s.2.2.2.2.2.2.2.2.2.2.2.2.2.2.2.2.2.2.1, ())
     else
      bif (Nat.beq (Int.toNat s.2.1.1) 4) then
       match ahO (s.2.1, s.2.2.2.1, s.2.2.2.2.1, s.2.2.2.2.2.1, s.2.2.2.2.2.2.1, s.2.2.2.2.2.2.2.1, s.2.2.2.2.2.2.2.2.1, s.2.2.2.2.2.2.2.2.2.1, s.2.2.2.2.2.2.2.2.2.2.1, ()) with
       | none => none
       | some r0 =>
        gn ((!r0.1), (-1 : Int), r0.2.1, r0.2.2.1, r0.2.2.2.1, r0.2.2.2.2.1, r0.2.2.2.2.2.1, r0.2.2.2.2.2.2.1, r0.2.2.2.2.2.2.2.1, r0.2.2.2.2.2.2.2.2.1, s.2.2.2.2.2.2.2.2.2.2.2.1, s.2.2.2.2.2.2.2.2.2.2.2.2.1, s.2.2.2.2.2.2.2.2.2.2.2.2.2.1, s.2.2.2.2.2.2.2.2.2.2.2.2.2.2.1, s.2.2.2.2.2.2.2.2.2.2.2.2.2.2.2.1, s.2.2.2.2.2.2.2.2.2.2.2.2.2.2.2.2.1, s.2.2.2.2.2.2.2.2.2.2.2.2.2.2.2.2.2.1, s.2.2.2.2.2.2.2.2.2.2.2.2.2.2.2.2.2.2.1, ())
      else
       bif (Nat.beq (Int.toNat s.2.1.1) 3) then
        match ahN (s.2.1, s.2.2.2.1, s.2.2.2.2.1, s.2.2.2.2.2.1, s.2.2.2.2.2.2.1, s.2.2.2.2.2.2.2.1, s.2.2.2.2.2.2.2.2.1, s.2.2.2.2.2.2.2.2.2.1, s.2.2.2.2.2.2.2.2.2.2.1, ()) with
        | none => none
        | some r0 =>
         gn ((!r0.1), (-1 : Int), r0.2.1, r0.2.2.1, r0.2.2.2.1, r0.2.2.2.2.1, r0.2.2.2.2.2.1, r0.2.2.2.2.2.2.1, r0.2.2.2.2.2.2.2.1, r0.2.2.2.2.2.2.2.2.1, s.2.2.2.2.2.2.2.2.2.2.2.1, s.2.2.2.2.2.2.2.2.2.2.2.2.1, s.2.2.2.2.2.2.2.2.2.2.2.2.2.1, s.2.2.2.2.2.2.2.2.2.2.2.2.2.2.1, s.2.2.2.2.2.2.2.2.2.2.2.2.2.2.2.1, s.2.2.2.2.2.2.2.2.2.2.2.2.2.2.2.2.1, s.2.2.2.2.2.2.2.2.2.2.2.2.2.2.2.2.2.1, s.2.2.2.2.2.2.2.2.2.2.2.2.2.2.2.2.2.2.1, ())
       else
        bif (Nat.beq (Int.toNat s.2.1.1) 2) then
         match ahM (s.2.1, s.2.2.2.1, s.2.2.2.2.1, s.2.2.2.2.2.1, s.2.2.2.2.2.2.1, s.2.2.2.2.2.2.2.1, s.2.2.2.2.2.2.2.2.1, s.2.2.2.2.2.2.2.2.2.1, s.2.2.2.2.2.2.2.2.2.2.1, ()) with
         | none => none
         | some r0 =>
          gn ((!r0.1), (-1 : Int), r0.2.1, r0.2.2.1, r0.2.2.2.1, r0.2.2.2.2.1, r0.2.2.2.2.2.1, r0.2.2.2.2.2.2.1, r0.2.2.2.2.2.2.2.1, r0.2.2.2.2.2.2.2.2.1, s.2.2.2.2.2.2.2.2.2.2.2.1, s.2.2.2.2.2.2.2.2.2.2.2.2.1, s.2.2.2.2.2.2.2.2.2.2.2.2.2.1, s.2.2.2.2.2.2.2.2.2.2.2.2.2.2.1, s.2.2.2.2.2.2.2.2.2.2.2.2.2.2.2.1, s.2.2.2.2.2.2.2.2.2.2.2.2.2.2.2.2.1, s.2.2.2.2.2.2.2.2.2.2.2.2.2.2.2.2.2.1, s.2.2.2.2.2.2.2.2.2.2.2.2.2.2.2.2.2.2.1, ())
        else
         bif (Nat.beq (Int.toNat s.2.1.1) 1) then
          match ahL (s.2.1, s.2.2.2.1, s.2.2.2.2.1, s.2.2.2.2.2.1, s.2.2.2.2.2.2.1, s.2.2.2.2.2.2.2.1, s.2.2.2.2.2.2.2.2.1, s.2.2.2.2.2.2.2.2.2.1, s.2.2.2.2.2.2.2.2.2.2.1, ()) with
          | none => none
          | some r0 =>
           gn ((!r0.1), (-1 : Int), r0.2.1, r0.2.2.1, r0.2.2.2.1, r0.2.2.2.2.1, r0.2.2.2.2.2.1, r0.2.2.2.2.2.2.1, r0.2.2.2.2.2.2.2.1, r0.2.2.2.2.2.2.2.2.1, s.2.2.2.2.2.2.2.2.2.2.2.1, s.2.2.2.2.2.2.2.2.2.2.2.2.1, s.2.2.2.2.2.2.2.2.2.2.2.2.2.1, s.2.2.2.2.2.2.2.2.2.2.2.2.2.2.1, s.2.2.2.2.2.2.2.2.2.2.2.2.2.2.2.1, s.2.2.2.2.2.2.2.2.2.2.2.2.2.2.2.2.1, s.2.2.2.2.2.2.2.2.2.2.2.2.2.2.2.2.2.1, s.2.2.2.2.2.2.2.2.2.2.2.2.2.2.2.2.2.2.1, ())
         else
          bif (Nat.beq (Int.toNat s.2.1.1) 0) then
           none
          else none
   else none
  else none
 else none
def ju (s : RD) : Option (RD ⊕ (RE ⊕ RE)) :=
 bif decide (s.1 >= 0) then
  bif decide (0 <= s.1) && decide (s.1 < (List.length s.2.2.1 : Int)) then
   let t0 := (List.getD s.2.2.1 (Int.toNat s.1) (0, ([], ([], (([], ([], ())), ([], ([], (0, ()))))))))
   match uT (s.1, t0, s.2.1, s.2.2.2.1, s.2.2.2.2.1, s.2.2.2.2.2.1, s.2.2.2.2.2.2.1, s.2.2.2.2.2.2.2.1, s.2.2.2.2.2.2.2.2.1, s.2.2.2.2.2.2.2.2.2.1, s.2.2.2.2.2.2.2.2.2.2.1, s.2.2.2.2.2.2.2.2.2.2.2.1, s.2.2.2.2.2.2.2.2.2.2.2.2.1, s.2.2.2.2.2.2.2.2.2.2.2.2.2.1, s.2.2.2.2.2.2.2.2.2.2.2.2.2.2.1, s.2.2.2.2.2.2.2.2.2.2.2.2.2.2.2.1, s.2.2.2.2.2.2.2.2.2.2.2.2.2.2.2.2.1, s.2.2.2.2.2.2.2.2.2.2.2.2.2.2.2.2.2.1, s.2.2.2.2.2.2.2.2.2.2.2.2.2.2.2.2.2.2.1, ()) with
   | none => none
   | some r1 =>
    bif !r1.1 then
     some (.inr (.inl (r1.2.1, s.2.2.1, r1.2.2.1, r1.2.2.2.1, r1.2.2.2.2.1, r1.2.2.2.2.2.1, r1.2.2.2.2.2.2.1, r1.2.2.2.2.2.2.2.1, r1.2.2.2.2.2.2.2.2.1, r1.2.2.2.2.2.2.2.2.2.1, r1.2.2.2.2.2.2.2.2.2.2.1, r1.2.2.2.2.2.2.2.2.2.2.2.1, r1.2.2.2.2.2.2.2.2.2.2.2.2.1, r1.2.2.2.2.2.2.2.2.2.2.2.2.2.1, r1.2.2.2.2.2.2.2.2.2.2.2.2.2.2.1, r1.2.2.2.2.2.2.2.2.2.2.2.2.2.2.2.1, r1.2.2.2.2.2.2.2.2.2.2.2.2.2.2.2.2.1, r1.2.2.2.2.2.2.2.2.2.2.2.2.2.2.2.2.2.1, ())))
    else
     some (.inl ((IntKind.i64.wrap (s.1 - 1)), r1.2.1, s.2.2.1, r1.2.2.1, r1.2.2.2.1, r1.2.2.2.2.1, r1.2.2.2.2.2.1, r1.2.2.2.2.2.2.1, r1.2.2.2.2.2.2.2.1, r1.2.2.2.2.2.2.2.2.1, r1.2.2.2.2.2.2.2.2.2.1, r1.2.2.2.2.2.2.2.2.2.2.1, r1.2.2.2.2.2.2.2.2.2.2.2.1, r1.2.2.2.2.2.2.2.2.2.2.2.2.1, r1.2.2.2.2.2.2.2.2.2.2.2.2.2.1, r1.2.2.2.2.2.2.2.2.2.2.2.2.2.2.1, r1.2.2.2.2.2.2.2.2.2.2.2.2.2.2.2.1, r1.2.2.2.2.2.2.2.2.2.2.2.2.2.2.2.2.1, r1.2.2.2.2.2.2.2.2.2.2.2.2.2.2.2.2.2.1, ()))
  else none
 else
  some (.inr (.inr (s.2.1, s.2.2.1, s.2.2.2.1, s.2.2.2.2.1, s.2.2.2.2.2.1, s.2.2.2.2.2.2.1, s.2.2.2.2.2.2.2.1, s.2.2.2.2.2.2.2.2.1, s.2.2.2.2.2.2.2.2.2.1, s.2.2.2.2.2.2.2.2.2.2.1, s.2.2.2.2.2.2.2.2.2.2.2.1, s.2.2.2.2.2.2.2.2.2.2.2.2.1, s.2.2.2.2.2.2.2.2.2.2.2.2.2.1, s.2.2.2.2.2.2.2.2.2.2.2.2.2.2.1, s.2.2.2.2.2.2.2.2.2.2.2.2.2.2.2.1, s.2.2.2.2.2.2.2.2.2.2.2.2.2.2.2.2.1, s.2.2.2.2.2.2.2.2.2.2.2.2.2.2.2.2.2.1, s.2.2.2.2.2.2.2.2.2.2.2.2.2.2.2.2.2.2.1, ())))
def jx := aQ ju
def lj (s : RE) : Option RE :=
 let t0 := (IntKind.i64.wrap (((List.length s.2.1) : Int) - 1))
 match jx (t0, s.1, s.2.1, s.2.2.1, s.2.2.2.1, s.2.2.2.2.1, s.2.2.2.2.2.1, s.2.2.2.2.2.2.1, s.2.2.2.2.2.2.2.1, s.2.2.2.2.2.2.2.2.1, s.2.2.2.2.2.2.2.2.2.1, s.2.2.2.2.2.2.2.2.2.2.1, s.2.2.2.2.2.2.2.2.2.2.2.1, s.2.2.2.2.2.2.2.2.2.2.2.2.1, s.2.2.2.2.2.2.2.2.2.2.2.2.2.1, s.2.2.2.2.2.2.2.2.2.2.2.2.2.2.1, s.2.2.2.2.2.2.2.2.2.2.2.2.2.2.2.1, s.2.2.2.2.2.2.2.2.2.2.2.2.2.2.2.2.1, s.2.2.2.2.2.2.2.2.2.2.2.2.2.2.2.2.2.1, ()) with
 | none => none
 | some (.inl z1) =>
  some (z1.1, z1.2.1, z1.2.2.1, z1.2.2.2.1, z1.2.2.2.2.1, z1.2.2.2.2.2.1, z1.2.2.2.2.2.2.1, z1.2.2.2.2.2.2.2.1, z1.2.2.2.2.2.2.2.2.1, z1.2.2.2.2.2.2.2.2.2.1, z1.2.2.2.2.2.2.2.2.2.2.1, z1.2.2.2.2.2.2.2.2.2.2.2.1, z1.2.2.2.2.2.2.2.2.2.2.2.2.1, z1.2.2.2.2.2.2.2.2.2.2.2.2.2.1, z1.2.2.2.2.2.2.2.2.2.2.2.2.2.2.1, z1.2.2.2.2.2.2.2.2.2.2.2.2.2.2.2.1, z1.2.2.2.2.2.2.2.2.2.2.2.2.2.2.2.2.1, z1.2.2.2.2.2.2.2.2.2.2.2.2.2.2.2.2.2.1, ())
 | some (.inr z1) =>
  some (z1.1, z1.2.1, z1.2.2.1, z1.2.2.2.1, z1.2.2.2.2.1, z1.2.2.2.2.2.1, z1.2.2.2.2.2.2.1, z1.2.2.2.2.2.2.2.1, z1.2.2.2.2.2.2.2.2.1, z1.2.2.2.2.2.2.2.2.2.1, z1.2.2.2.2.2.2.2.2.2.2.1, z1.2.2.2.2.2.2.2.2.2.2.2.1, z1.2.2.2.2.2.2.2.2.2.2.2.2.1, z1.2.2.2.2.2.2.2.2.2.2.2.2.2.1, z1.2.2.2.2.2.2.2.2.2.2.2.2.2.2.1, z1.2.2.2.2.2.2.2.2.2.2.2.2.2.2.2.1, z1.2.2.2.2.2.2.2.2.2.2.2.2.2.2.2.2.1, z1.2.2.2.2.2.2.2.2.2.2.2.2.2.2.2.2.2.1, ())
def akO (s : List UInt8 × List ag × Unit) : Option (sI × Unit) :=
 match gH (s.2.1, ()) with
 | none => none
 | some r0 =>
  match lj (0, r0.1, false, false, s.1, [], 0, s.1, false, 0, false, false, [], [], 0, [], false, 0, ()) with
  | none => none
  | some r1 =>
   bif decide (r1.1 = 0) then
    some ((r1.2.2.1, (r1.2.2.2.1, ((r1.2.2.2.2.1, (r1.2.2.2.2.2.1, (r1.2.2.2.2.2.2.1, ()))), (r1.2.2.2.2.2.2.2.1, (r1.2.2.2.2.2.2.2.2.1, (r1.2.2.2.2.2.2.2.2.2.1, ())))))), ())
   else
    bif decide (r1.1 = 1) then
     some ((r1.2.2.2.2.2.2.2.2.2.2.1, (r1.2.2.2.2.2.2.2.2.2.2.2.1, ((r1.2.2.2.2.2.2.2.2.2.2.2.2.1, (r1.2.2.2.2.2.2.2.2.2.2.2.2.2.1, (r1.2.2.2.2.2.2.2.2.2.2.2.2.2.2.1, ()))), (r1.2.2.2.2.2.2.2.2.2.2.2.2.2.2.2.1, (r1.2.2.2.2.2.2.2.2.2.2.2.2.2.2.2.2.1, (r1.2.2.2.2.2.2.2.2.2.2.2.2.2.2.2.2.2.1, ())))))), ())
    else none
def mT (s : List UInt8 × Unit) : Option (Bool × Unit) :=
 some ((!decide ((s.1 : List UInt8) = s.1)), ())
def ad2 (s : aa) : Option (Bool × Unit) :=
 match mT (s.1, ()) with
 | none => none
 | some r0 =>
  bif r0.1 then
   match mT (s.2.1, ()) with
   | none => none
   | some r1 =>
    bif (!(!r1.1)) then
     some ((Op.bytesLess s.1 s.2.1), ())
    else
     some (true, ())
  else
   some ((Op.bytesLess s.1 s.2.1), ())
def rx (s : List UInt8 × Unit) : Option (Bool × Unit) :=
 some ((!decide ((s.1 : List UInt8) = s.1)), ())
def jO (s : Ta) : Option (Ta ⊕ (((List (List UInt8)) × List UInt8 × Int × Int × Unit) ⊕ Unit)) :=
 let t0 := decide (s.2.2.2.1 < s.2.2.2.2.1)
 bif t0 then
  let t1 := IntKind.i64.wrap (s.2.2.2.1 + s.2.2.2.2.1)
  let t2 : Int := (Int.fdiv (IntKind.u64.wrap t1) (2 ^ (min (Int.toNat 1) IntKind.u64.bits)))
  bif (decide (0 <= (IntKind.i64.wrap t2)) && decide (((IntKind.i64.wrap t2) : Int) < (List.length s.1 : Int))) then
   let t3 := (List.getD s.1 (Int.toNat (IntKind.i64.wrap t2)) [])
   match ad2 (t3, s.2.1, ()) with
   | none => none
   | some r4 =>
    bif r4.1 then
     let t5 := IntKind.i64.wrap ((IntKind.i64.wrap t2) + 1)
     some (.inl (s.1, s.2.1, s.2.2.1, t5, s.2.2.2.2.1, ()))
    else
     some (.inl (s.1, s.2.1, s.2.2.1, s.2.2.2.1, (IntKind.i64.wrap t2), ()))
  else none
 else
  some (.inr (.inl (s.1, s.2.1, s.2.2.1, s.2.2.2.1, ())))
def jQ := aQ jO
def lR (s : (List (List UInt8)) × List UInt8 × Unit) : Option T4 :=
 match jQ (s.1, s.2.1, ((List.length s.1) : Int), 0, ((List.length s.1) : Int), ()) with
 | none => none
 | some (.inl z0) =>
  bif decide (z0.2.2.2.1 < z0.2.2.1) then
   bif decide (0 <= z0.2.2.2.1) && decide (z0.2.2.2.1 < (List.length z0.1 : Int)) then
    let t1 := (List.getD z0.1 (Int.toNat z0.2.2.2.1) [])
    bif (!(decide ((t1 : List UInt8) = z0.2.1))) then
     bif decide (0 <= z0.2.2.2.1) && decide (z0.2.2.2.1 < (List.length z0.1 : Int)) then
      let t2 := (List.getD z0.1 (Int.toNat z0.2.2.2.1) [])
      match rx (t2, ()) with
      | none => none
      | some r3 =>
       bif r3.1 then
        match rx (z0.2.1, ()) with
        | none => none
        | some r4 =>
         some (z0.2.2.2.1, r4.1, ())
       else
        some (z0.2.2.2.1, false, ())
     else none
    else
     some (z0.2.2.2.1, true, ())
   else none
  else
   some (z0.2.2.2.1, false, ())
 | some (.inr z0) =>
  none
def apJ (s : List UInt8 × (List (List UInt8)) × Unit) : Option (Int × Unit) :=
 match lR (s.2.1, s.1, ()) with
 | none => none
 | some r0 =>
  bif r0.2.1 then
   some ((IntKind.i64.wrap (r0.1 + 1)), ())
  else
   some (r0.1, ())
def al4 (s : sI × ae × Bool × Unit) : Option (ae × Bool × Unit) :=
 bif s.1.1 then
  some (s.1.2.2.1, s.1.2.1, ())
 else
  bif !s.2.2.1 then
   some (([], ([], (0, ()))), false, ())
  else
   bif s.1.2.2.2.2.1 then
    some ((s.1.2.2.1.1, (s.2.1.2.1, (s.1.2.2.2.2.2.1, ()))), true, ())
   else
    some ((s.1.2.2.1.1, (s.2.1.2.1, (s.2.1.2.2.1, ()))), true, ())
def al6 (s : RL) : Option (RL ⊕ (TC ⊕ Unit)) :=
 match oc (s.2.2.2.1.1, s.2.1, ()) with
 | none => none
 | some r0 =>
  bif (!decide (r0.2.1 = 0)) then
   some (.inr (.inl (r0.2.1, s.2.2.1, ([], ([], (0, ()))), false, 0, ())))
  else
   let t1 := IntKind.i64.wrap (s.2.2.2.2.2.2.2.2.1 + 1)
   match tb (r0.1, ()) with
   | none => none
   | some r2 =>
    bif r2.1 then
     match aom (r0.1.1, s.1, ()) with
     | none => none
     | some r3 =>
      some (.inr (.inl (0, s.2.2.1, r3.1, r3.2.1, t1, ())))
    else
     match akO (s.1, r0.1.2.2.2.2.1, ()) with
     | none => none
     | some r3 =>
      bif r3.1.1 then
       some (.inr (.inl (0, (r3.1 :: s.2.2.1), ([], ([], (0, ()))), false, t1, ())))
      else
       match apJ (r3.1.2.2.2.1, r0.1.2.1, ()) with
       | none => none
       | some r4 =>
        bif decide (0 <= r4.1) && decide (r4.1 < (List.length r0.1.2.2.1 : Int)) then
         let t5 := (List.getD r0.1.2.2.1 (Int.toNat r4.1) 0)
         some (.inl (r3.1.2.2.2.1, t5, (r3.1 :: s.2.2.1), s.2.2.2.1, s.2.2.2.2.1, s.2.2.2.2.2.1, s.2.2.2.2.2.2.1, s.2.2.2.2.2.2.2.1, t1, ()))
        else none
def al7 := aQ al6
def afL (s : TC) : Option (TC ⊕ ((Int × ae × Bool × Int × Unit) ⊕ Unit)) :=
 bif (List.isEmpty s.2.1) then
  some (.inr (.inl (s.1, s.2.2.1, s.2.2.2.1, s.2.2.2.2.1, ())))
 else
  match (List.head? s.2.1) with
  | none => none
  | some x0 =>
   let t1 := decide (s.2.2.2.2.1 > 0)
   bif t1 then
    match al4 (x0, s.2.2.1, s.2.2.2.1, ()) with
    | none => none
    | some r2 =>
     some (.inl (s.1, (List.tail s.2.1), r2.1, r2.2.1, s.2.2.2.2.1, ()))
   else
    some (.inl (s.1, (List.tail s.2.1), s.2.2.1, s.2.2.2.1, s.2.2.2.2.1, ()))
def afM := aQ afL
def ajZ (s : az × List UInt8 × Unit) : Option oA :=
 match al7 (s.2.1, s.1.2.1, [], s.1, [], [], 0, false, 0, ()) with
 | none => none
 | some (.inl z0) =>
  match afM (z0.1, z0.2.1, z0.2.2.1, z0.2.2.2.1, z0.2.2.2.2.1, ()) with
  | none => none
  | some (.inl z1) =>
   some (z1.2.1, z1.2.2.1, z1.2.2.2.1, z1.1, ())
  | some (.inr z1) =>
   none
 | some (.inr z0) =>
  none
def qY (s : aP) : Option (Bool × Unit) :=
 bif decide (s.2.1 <= s.1) then
  some ((decide (s.1 <= s.2.2.1)), ())
 else
  some (false, ())
def fu (s : aP × Unit) : Option (Bool × Unit) :=
 match qY (s.1.1, 2, 64, ()) with
 | none => none
 | some r0 =>
  bif r0.1 then
   match qY (s.1.2.1, 2, 16, ()) with
   | none => none
   | some r1 =>
    bif r1.1 then
     match qY (s.1.2.2.1, 1, 64, ()) with
     | none => none
     | some r2 =>
      some (r2.1, ())
    else
     some (false, ())
  else
   some (false, ())
def anz (s : aq × Unit) : Option (Bool × Unit) :=
 some ((!s.1.1), ())
def j3 (s : List aq × Int × Int × Unit) : Option ((List aq × Int × Int × Unit) ⊕ ((Int × Unit) ⊕ Unit)) :=
 bif decide (s.2.2.1 < s.2.1) then
  bif decide (0 <= s.2.2.1) && decide (s.2.2.1 < (List.length s.1 : Int)) then
   let t0 := (List.getD s.1 (Int.toNat s.2.2.1) (false, (false, (0, (([], ([], ([], ([], ([], ()))))), ())))))
   match anz (t0, ()) with
   | none => none
   | some r1 =>
    bif r1.1 then
     some (.inr (.inl (s.2.2.1, ())))
    else
     some (.inl (s.1, s.2.1, (IntKind.i64.wrap (s.2.2.1 + 1)), ()))
  else none
 else
  some (.inr (.inr (())))
def j5 := aQ j3
def l7 (s : ah) : Option (Int × Unit) :=
 match j5 (s.1, ((List.length s.1) : Int), 0, ()) with
 | none => none
 | some (.inl z0) =>
  some (z0.1, ())
 | some (.inr z0) =>
  some ((-1 : Int), ())
def aiq (s : ah × Unit) : Option ah :=
 bif (decide (0 <= ((List.length s.1.1) : Int)) && decide ((((List.length s.1.1) : Int) : Int) <= ((List.length s.1.1) : Int)) && decide (((List.length s.1.1) : Int) * 136 <= (am : Int))) then
  let t0 := (List.take (List.length (List.replicate (Int.toNat ((List.length s.1.1) : Int)) (false, (false, ((0 : Int), ((([] : List ae), (([] : List (List UInt8)), (([] : List Int), (([] : List api_Sum), (([] : List ag), ()))))), ())))))) s.1.1)
  let t1 := (List.take 0 (List.replicate (Int.toNat ((List.length s.1.1) : Int)) (false, (false, ((0 : Int), ((([] : List ae), (([] : List (List UInt8)), (([] : List Int), (([] : List api_Sum), (([] : List ag), ()))))), ()))))) ++ t0 ++ List.drop (0 + List.length t0) (List.replicate (Int.toNat ((List.length s.1.1) : Int)) (false, (false, ((0 : Int), ((([] : List ae), (([] : List (List UInt8)), (([] : List Int), (([] : List api_Sum), (([] : List ag), ()))))), ()))))))
  some (t1, ())
 else none
def alh (s : Tg) : Option (Tg ⊕ ((Int × Int × ah × Unit) ⊕ (ah × api_Node × List aq × Unit))) :=
 bif decide (s.2.2.1 < s.2.1) then
  bif decide (0 <= s.2.2.1) && decide (s.2.2.1 < (List.length s.1 : Int)) then
   let t0 := (List.getD s.1 (Int.toNat s.2.2.1) 0)
   match xp (s.2.2.2.1, t0, ()) with
   | none => none
   | some r1 =>
    bif !r1.1 then
     some (.inr (.inl (0, 110, s.2.2.2.1, ())))
    else
     some (.inl (s.1, s.2.1, (IntKind.i64.wrap (s.2.2.1 + 1)), s.2.2.2.1, s.2.2.2.2.1, s.2.2.2.2.2.1, ()))
  else none
 else
  some (.inr (.inr (s.2.2.2.1, s.2.2.2.2.1, s.2.2.2.2.2.1, ())))
def alm := aQ alh
def ali (s : Th) : Option (Th ⊕ ((Int × List aq × List aq × Unit) ⊕ Unit)) :=
 bif decide (s.2.2.2.1 < s.2.2.1) then
  bif decide (0 <= s.2.2.2.1) && decide (s.2.2.2.1 < (List.length s.2.1 : Int)) then
   let t0 := (List.getD s.2.1 (Int.toNat s.2.2.2.1) 0)
   bif decide (0 <= t0) && decide (t0 < (List.length s.2.2.2.2.2.1 : Int)) then
    let t1 := (List.getD s.2.2.2.2.2.1 (Int.toNat t0) (false, (false, (0, (([], ([], ([], ([], ([], ()))))), ())))))
    let t2 := IntKind.i64.wrap (t1.2.2.1 + 1)
    bif decide (0 <= t0) && decide (t0 < (List.length s.2.2.2.2.2.1 : Int)) then
     let t3 := (List.set s.2.2.2.2.2.1 (Int.toNat t0) ((List.getD s.2.2.2.2.2.1 (Int.toNat t0) (false, (false, (0, (([], ([], ([], ([], ([], ()))))), ()))))).1, ((List.getD s.2.2.2.2.2.1 (Int.toNat t0) (false, (false, (0, (([], ([], ([], ([], ([], ()))))), ()))))).2.1, (t2, (List.getD s.2.2.2.2.2.1 (Int.toNat t0) (false, (false, (0, (([], ([], ([], ([], ([], ()))))), ()))))).2.2.2))))
     let t4 := IntKind.i64.wrap (s.2.2.2.1 + 1)
     some (.inl (s.1, s.2.1, s.2.2.1, t4, s.2.2.2.2.1, t3, ()))
    else none
   else none
  else none
 else
  some (.inr (.inl (s.1, s.2.2.2.2.1, s.2.2.2.2.2.1, ())))
def aln := aQ ali
def alk (s : Int × api_Node × List aq × List aq × Unit) : Option gC :=
 bif decide (0 <= s.1) && decide (s.1 < (List.length s.2.2.2.1 : Int)) then
  let t0 := (List.set s.2.2.2.1 (Int.toNat s.1) (true, (false, (1, (s.2.1, ())))))
  match aln (s.1, s.2.1.2.2.1, ((List.length s.2.1.2.2.1) : Int), 0, s.2.2.1, t0, ()) with
  | none => none
  | some (.inl z1) =>
   some ((z1.2.2.1, ()), z1.1, 0, ())
  | some (.inr z1) =>
   none
 else none
def alj (s : Int × ah × api_Node × List aq × Unit) : Option gC :=
 bif decide (s.1 >= 4096) then
  some (s.2.1, 0, 111, ())
 else
  match aiq (s.2.1, ()) with
  | none => none
  | some r0 =>
   let t1 := (decide (s.1 = ((List.length r0.1) : Int)))
   bif t1 then
    bif (decide ((List.length r0.1 + List.length ([(false, (false, (0, (([], ([], ([], ([], ([], ()))))), ()))))] : List aq)) * 136 <= am)) then
     let t2 : List aq := (r0.1 ++ ([(false, (false, (0, (([], ([], ([], ([], ([], ()))))), ()))))] : List aq))
     alk (s.1, s.2.2.1, s.2.2.2.1, t2, ())
    else none
   else
    alk (s.1, s.2.2.1, s.2.2.2.1, r0.1, ())

def afe (s : ah × api_Node × Unit) : Option gC :=
 match alm (s.2.1.2.2.1, ((List.length s.2.1.2.2.1) : Int), 0, s.1, s.2.1, [], ()) with
 | none => none
 | some (.inl z0) =>
  some (z0.2.2.1, z0.1, z0.2.1, ())
 | some (.inr z0) =>
  match l7 (z0.1.1, ()) with
  | none => none
  | some r1 =>
   bif decide (r1.1 < 0) then
    alj (((List.length z0.1.1) : Int), z0.1, z0.2.1, z0.2.2.1, ())
   else
    alj (r1.1, z0.1, z0.2.1, z0.2.2.1, ())
def qt (s : aP × Unit) : Option (az × Int × Unit) :=
 match fu (s.1, ()) with
 | none => none
 | some r0 =>
  bif !r0.1 then
   some ((([], ()), (0, ((0, (0, (0, ()))), ()))), 120, ())
  else
   match afe (([], ()), ([], ([], ([], ([], ([], ()))))), ()) with
   | none => none
   | some r1 =>
    some ((r1.1, (r1.2.1, (s.1, ()))), r1.2.2.1, ())
def xq (s : Int × Unit) : Option (List UInt8 × Unit) :=
 let t0 := (decide (((Int.tmod s.1 24) : Int) < 20))
 bif t0 then
  let t1 := (IntKind.u8.wrap (Int.tdiv (Int.tmod s.1 24) 5))
  bif (decide (0 <= t1) && decide (t1 < (List.length ([([97, 47] : List UInt8), ([98, 47] : List UInt8), ([97, 47, 98, 47] : List UInt8), ([99, 47] : List UInt8)] : List (List UInt8)) : Int))) then
   let t2 := (List.getD ([([97, 47] : List UInt8), ([98, 47] : List UInt8), ([97, 47, 98, 47] : List UInt8), ([99, 47] : List UInt8)] : List (List UInt8)) (Int.toNat t1) [])
   let t3 : Int := (Int.tmod (Int.tmod s.1 24) 5)
   bif (decide (0 <= t3) && decide (t3 < (List.length ([([1] : List UInt8), ([2, 0, 0] : List UInt8), ([2, 0, 1] : List UInt8), ([2, 0, 2] : List UInt8), ([3, 120] : List UInt8)] : List (List UInt8)) : Int))) then
    let t4 := (List.getD ([([1] : List UInt8), ([2, 0, 0] : List UInt8), ([2, 0, 1] : List UInt8), ([2, 0, 2] : List UInt8), ([3, 120] : List UInt8)] : List (List UInt8)) (Int.toNat t3) [])
    bif decide (List.length t2 + List.length t4 <= am) then
     some ((t2 ++ t4), ())
    else none
   else none
  else none
 else
  let t1 := (IntKind.u8.wrap ((Int.tmod s.1 24) - 20))
  bif (decide (0 <= t1) && decide (t1 < (List.length ([([1] : List UInt8), ([5, 48, 48, 48, 48, 48, 48, 48, 49, 47, 1] : List UInt8), ([6, 97, 47, 1] : List UInt8), ([97, 47, 98, 47, 99, 47, 1] : List UInt8)] : List (List UInt8)) : Int))) then
   let t2 := (List.getD ([([1] : List UInt8), ([5, 48, 48, 48, 48, 48, 48, 48, 49, 47, 1] : List UInt8), ([6, 97, 47, 1] : List UInt8), ([97, 47, 98, 47, 99, 47, 1] : List UInt8)] : List (List UInt8)) (Int.toNat t1) [])
   some (t2, ())
  else none
def acA (s : aP × Unit) : Option (ae × Unit) :=
 match xq (s.1.1, ()) with
 | none => none
 | some r0 =>
  bif (decide (0 <= (Int.tmod s.1.2.1 4)) && decide (((Int.tmod s.1.2.1 4) : Int) < (List.length ([[], ([118] : List UInt8), ([119, 120] : List UInt8), ([120, 121, 122] : List UInt8)] : List (List UInt8)) : Int))) then
   let t1 := (List.getD ([[], ([118] : List UInt8), ([119, 120] : List UInt8), ([120, 121, 122] : List UInt8)] : List (List UInt8)) (Int.toNat (Int.tmod s.1.2.1 4)) [])
   let t2 := IntKind.i64.wrap (Int.tmod s.1.2.2.1 4)
   some ((r0.1, (t1, (t2, ()))), ())
  else none
def wz (s : Tx) : Option (Tx ⊕ ((Bool × ae × List ae × Unit) ⊕ Unit)) :=
 bif decide (0 <= s.2.2.1) && decide (s.2.2.1 < (List.length s.1 : Int)) then
  let t0 := (List.getD s.1 (Int.toNat s.2.2.1) ([], ([], (0, ()))))
  let t1 := (!decide ((t0.1 : List UInt8) = s.2.2.2.1.1))
  bif t1 then
   bif decide (0 <= s.2.2.1) && decide (s.2.2.1 < (List.length s.1 : Int)) then
    let t2 := (List.getD s.1 (Int.toNat s.2.2.1) ([], ([], (0, ()))))
    bif (decide ((List.length s.2.2.2.2.1 + List.length ([t2] : List ae)) * 40 <= am)) then
     let t3 : List ae := (s.2.2.2.2.1 ++ ([t2] : List ae))
     some (.inl (s.1, s.2.1, (IntKind.i64.wrap (s.2.2.1 + 1)), s.2.2.2.1, t3, ()))
    else none
   else none
  else
   some (.inl (s.1, s.2.1, (IntKind.i64.wrap (s.2.2.1 + 1)), s.2.2.2.1, s.2.2.2.2.1, ()))
 else none
def w8 (s : List ae × Bool × Int × Bool × ae × List ae × Unit) : Option (Tx ⊕ ((Bool × ae × List ae × Unit) ⊕ Unit)) :=
 bif s.2.2.2.1 then
  bif (decide ((List.length s.2.2.2.2.2.1 + List.length ([s.2.2.2.2.1] : List ae)) * 40 <= am)) then
   let t0 : List ae := (s.2.2.2.2.2.1 ++ ([s.2.2.2.2.1] : List ae))
   wz (s.1, true, s.2.2.1, s.2.2.2.2.1, t0, ())
  else none
 else
  wz (s.1, s.2.1, s.2.2.1, s.2.2.2.2.1, s.2.2.2.2.2.1, ())

def tP (s : Tx) : Option (Tx ⊕ ((Bool × ae × List ae × Unit) ⊕ Unit)) :=
 let t0 := (decide (s.2.2.1 < ((List.length s.1) : Int)))
 bif t0 then
  bif !s.2.1 then
   bif decide (0 <= s.2.2.1) && decide (s.2.2.1 < (List.length s.1 : Int)) then
    let t1 := (List.getD s.1 (Int.toNat s.2.2.1) ([], ([], (0, ()))))
    w8 (s.1, s.2.1, s.2.2.1, (!(Op.bytesLess t1.1 s.2.2.2.1.1)), s.2.2.2.1, s.2.2.2.2.1, ())
   else none
  else
   w8 (s.1, s.2.1, s.2.2.1, false, s.2.2.2.1, s.2.2.2.2.1, ())
 else
  some (.inr (.inl (s.2.1, s.2.2.2.1, s.2.2.2.2.1, ())))
def acB := aQ tP
def agl (s : List ae × ae × Unit) : Option (List ae × Unit) :=
 match acB (s.1, false, 0, s.2.1, [], ()) with
 | none => none
 | some (.inl z0) =>
  bif !z0.1 then
   bif (decide ((List.length z0.2.2.1 + List.length ([z0.2.1] : List ae)) * 40 <= am)) then
    let t1 : List ae := (z0.2.2.1 ++ ([z0.2.1] : List ae))
    some (t1, ())
   else none
  else
   some (z0.2.2.1, ())
 | some (.inr z0) =>
  none
def mW (s : List aP × Int × Bool × List ae × Unit) : Option (TL ⊕ ((List ae × Unit) ⊕ Unit)) :=
 bif s.2.2.1 then
  bif decide (0 <= s.2.1) && decide (s.2.1 < (List.length s.1 : Int)) then
   let t0 := (List.getD s.1 (Int.toNat s.2.1) (0, (0, (0, ()))))
   match acA (t0, ()) with
   | none => none
   | some r1 =>
    match agl (s.2.2.2.1, r1.1, ()) with
    | none => none
    | some r2 =>
     some (.inl (s.1, (IntKind.i64.wrap (s.2.1 + 1)), r2.1, ()))
  else none
 else
  some (.inr (.inl (s.2.2.2.1, ())))

def o8 (s : TL) : Option (TL ⊕ ((List ae × Unit) ⊕ Unit)) :=
 let t0 := (decide (s.2.1 < ((List.length s.1) : Int)))
 bif t0 then
  mW (s.1, s.2.1, (decide (s.2.1 < 40)), s.2.2.1, ())
 else
  mW (s.1, s.2.1, false, s.2.2.1, ())
def vg := aQ o8
def yM (s : List aP × Unit) : Option (List ae × Unit) :=
 match vg (s.1, 0, [], ()) with
 | none => none
 | some (.inl z0) =>
  some (z0.1, ())
 | some (.inr z0) =>
  none
def ab9 (s : aO) : Option (api_Node × Int × Unit) :=
 match uN (s.1, s.2.1, ()) with
 | none => none
 | some r0 =>
  bif !r0.1 then
   some (([], ([], ([], ([], ([], ()))))), 110, ())
  else
   bif decide (0 <= s.2.1) && decide (s.2.1 < (List.length s.1.1 : Int)) then
    let t1 := (List.getD s.1.1 (Int.toNat s.2.1) (false, (false, (0, (([], ([], ([], ([], ([], ()))))), ())))))
    bif t1.2.1 then
     some (([], ([], ([], ([], ([], ()))))), 112, ())
    else
     bif decide (0 <= s.2.1) && decide (s.2.1 < (List.length s.1.1 : Int)) then
      let t2 := (List.getD s.1.1 (Int.toNat s.2.1) (false, (false, (0, (([], ([], ([], ([], ([], ()))))), ())))))
      some (t2.2.2.2.1, 0, ())
     else none
   else none
def mB (s : Int × Unit) : Option (List UInt8 × Unit) :=
 bif (decide (0 <= (Int.tmod s.1 5)) && decide (((Int.tmod s.1 5) : Int) < (List.length ([([97, 47] : List UInt8), ([98, 47] : List UInt8), ([97, 47, 98, 47] : List UInt8), ([99, 47] : List UInt8), ([100, 47] : List UInt8)] : List (List UInt8)) : Int))) then
  let t0 := (List.getD ([([97, 47] : List UInt8), ([98, 47] : List UInt8), ([97, 47, 98, 47] : List UInt8), ([99, 47] : List UInt8), ([100, 47] : List UInt8)] : List (List UInt8)) (Int.toNat (Int.tmod s.1 5)) [])
  some (t0, ())
 else none
def xr (s : Int × Unit) : Option (List UInt8 × Unit) :=
 match mB ((Int.tmod s.1 4), ()) with
 | none => none
 | some r0 =>
  let t1 := (IntKind.u8.wrap (Int.tdiv s.1 4))
  bif (decide (0 <= (Int.tmod t1 5)) && decide (((Int.tmod t1 5) : Int) < (List.length ([([1] : List UInt8), ([2, 0, 0] : List UInt8), ([2, 0, 1] : List UInt8), ([2, 0, 2] : List UInt8), ([3, 120] : List UInt8)] : List (List UInt8)) : Int))) then
   let t2 := (List.getD ([([1] : List UInt8), ([2, 0, 0] : List UInt8), ([2, 0, 1] : List UInt8), ([2, 0, 2] : List UInt8), ([3, 120] : List UInt8)] : List (List UInt8)) (Int.toNat (Int.tmod t1 5)) [])
   bif decide (List.length r0.1 + List.length t2 <= am) then
    some ((r0.1 ++ t2), ())
   else none
  else none
def adF (s : Tn) : Option (Tn ⊕ (Tn ⊕ Unit)) :=
 bif decide (s.2.1 > 0) then
  bif (decide (0 <= (IntKind.i64.wrap (s.2.1 - 1))) && decide (((IntKind.i64.wrap (s.2.1 - 1)) : Int) < (List.length s.1 : Int))) then
   let t0 : Int := ((List.getD s.1 (Int.toNat (IntKind.i64.wrap (s.2.1 - 1))) 0).toNat : Int)
   bif decide (t0 = 255) then
    some (.inl (s.1, (IntKind.i64.wrap (s.2.1 - 1)), s.2.2.1, s.2.2.2.1, ()))
   else
    some (.inr (.inl (s.1, s.2.1, s.2.2.1, s.2.2.2.1, ())))
  else none
 else
  some (.inr (.inl (s.1, s.2.1, s.2.2.1, s.2.2.2.1, ())))
def adH := aQ adF
def jZ (s : List UInt8 × Unit) : Option (aa × Unit) :=
 match adH (s.1, ((List.length s.1) : Int), [], [], ()) with
 | none => none
 | some (.inl z0) =>
  bif decide (z0.2.1 = 0) then
   some ((z0.1, ([], ())), ())
  else
   bif (decide ((0 : Int) <= (IntKind.i64.wrap (z0.2.1 - 1))) && decide (((IntKind.i64.wrap (z0.2.1 - 1)) : Int) <= (List.length z0.1 : Int))) then
    let t1 := (List.drop 0 (List.take (Int.toNat (IntKind.i64.wrap (z0.2.1 - 1))) z0.1))
    bif (decide (0 <= (IntKind.i64.wrap (z0.2.1 - 1))) && decide (((IntKind.i64.wrap (z0.2.1 - 1)) : Int) < (List.length z0.1 : Int))) then
     let t2 : Int := ((List.getD z0.1 (Int.toNat (IntKind.i64.wrap (z0.2.1 - 1))) 0).toNat : Int)
     let t3 : List UInt8 := (vK ([(IntKind.u8.wrap (t2 + 1))] : List Int))
     bif decide (List.length t1 + List.length t3 <= am) then
      some ((z0.1, ((t1 ++ t3), ())), ())
     else none
    else none
   else none
 | some (.inr z0) =>
  none
def tN (s : aa) : Option (Bool × Unit) :=
 let t0 := (decide ((((List.length s.1) : Int) : Int) >= ((List.length s.2.1) : Int)))
 bif t0 then
  bif (decide ((0 : Int) <= ((List.length s.2.1) : Int)) && decide ((((List.length s.2.1) : Int) : Int) <= (List.length s.1 : Int))) then
   let t1 := (List.drop 0 (List.take (Int.toNat ((List.length s.2.1) : Int)) s.1))
   some ((decide ((t1 : List UInt8) = s.2.1)), ())
  else none
 else
  some (false, ())
def qb (s : Int × Unit) : Option (List UInt8 × Unit) :=
 bif (decide (0 <= (Int.tmod s.1 5)) && decide (((Int.tmod s.1 5) : Int) < (List.length ([[], ([120] : List UInt8), ([121, 121] : List UInt8), ([49, 50, 51, 52, 53, 54, 55, 56, 57, 48] : List UInt8), ([0, 255] : List UInt8)] : List (List UInt8)) : Int))) then
  let t0 := (List.getD ([[], ([120] : List UInt8), ([121, 121] : List UInt8), ([49, 50, 51, 52, 53, 54, 55, 56, 57, 48] : List UInt8), ([0, 255] : List UInt8)] : List (List UInt8)) (Int.toNat (Int.tmod s.1 5)) [])
  some (t0, ())
 else none
def qL (s : List UInt8 × Unit) : Option (aa × Unit) :=
 bif decide (List.length s.1 + List.length ([0] : List UInt8) <= am) then
  some ((s.1, ((s.1 ++ ([0] : List UInt8)), ())), ())
 else none
def dI (s : List UInt8 × List UInt8 × List UInt8 × Bool × TB × Int × List UInt8 × List UInt8 × List UInt8 × List UInt8 × List UInt8 × List UInt8 × Int × aa × Unit) : Option (RB ⊕ Unit) :=
 bif s.2.2.2.1 then
  let t0 := decide ((s.2.1 : List UInt8) = ([100, 47] : List UInt8))
  bif t0 then
   some (.inl (s.1, s.2.1, ([99, 47] : List UInt8), s.2.2.2.2.1, s.2.2.2.2.2.1, s.2.2.2.2.2.2.1, s.2.2.2.2.2.2.2.1, s.2.2.2.2.2.2.2.2.1, s.2.2.2.2.2.2.2.2.2.1, s.2.2.2.2.2.2.2.2.2.2.1, s.2.2.2.2.2.2.2.2.2.2.2.1, s.2.2.2.2.2.2.2.2.2.2.2.2.1, s.2.2.2.2.2.2.2.2.2.2.2.2.2.1, ()))
  else
   some (.inl (s.1, s.2.1, ([100, 47] : List UInt8), s.2.2.2.2.1, s.2.2.2.2.2.1, s.2.2.2.2.2.2.1, s.2.2.2.2.2.2.2.1, s.2.2.2.2.2.2.2.2.1, s.2.2.2.2.2.2.2.2.2.1, s.2.2.2.2.2.2.2.2.2.2.1, s.2.2.2.2.2.2.2.2.2.2.2.1, s.2.2.2.2.2.2.2.2.2.2.2.2.1, s.2.2.2.2.2.2.2.2.2.2.2.2.2.1, ()))
 else
  some (.inl (s.1, s.2.1, s.2.2.1, s.2.2.2.2.1, s.2.2.2.2.2.1, s.2.2.2.2.2.2.1, s.2.2.2.2.2.2.2.1, s.2.2.2.2.2.2.2.2.1, s.2.2.2.2.2.2.2.2.2.1, s.2.2.2.2.2.2.2.2.2.2.1, s.2.2.2.2.2.2.2.2.2.2.2.1, s.2.2.2.2.2.2.2.2.2.2.2.2.1, s.2.2.2.2.2.2.2.2.2.2.2.2.2.1, ()))
def gc (s : RB) : Option (ag ⊕ Unit) :=
 let t0 : Int := (Int.tmod s.2.2.2.1.2.2.2.2.2.1 8)
 let t1 := (decide (((Int.tmod s.2.2.2.1.1 6) : Int) = 0))
 bif t1 then
  match qb (s.2.2.2.1.2.2.1, ()) with
  | none => none
  | some r2 =>
   some (.inl (1, s.1, r2.1, ([], ([], ())), [], [], (IntKind.i64.wrap t0), ()))
 else
  let t2 := (decide (((Int.tmod s.2.2.2.1.1 6) : Int) = 1))
  bif t2 then
   some (.inl (2, s.1, [], ([], ([], ())), [], [], 0, ()))
  else
   let t3 := (decide (((Int.tmod s.2.2.2.1.1 6) : Int) = 2))
   bif t3 then
    some (.inl (3, [], [], s.2.2.2.2.2.2.2.2.2.2.2.2.1, [], [], 0, ()))
   else
    let t4 := (decide (((Int.tmod s.2.2.2.1.1 6) : Int) = 3))
    bif t4 then
     some (.inl (4, [], [], ([], ([], ())), s.2.1, s.2.2.1, 0, ()))
    else
     let t5 := (decide (((Int.tmod s.2.2.2.1.1 6) : Int) = 4))
     bif t5 then
      some (.inl (5, [], [], ([], ([], ())), s.2.1, s.2.2.1, 0, ()))
     else
      some (.inl (6, [], [], s.2.2.2.2.2.2.2.2.2.2.2.2.1, [], [], (IntKind.i64.wrap t0), ()))
def cF (s : List UInt8 × TB × Int × List UInt8 × List UInt8 × List UInt8 × List UInt8 × List UInt8 × List UInt8 × Int × aa × Unit) : Option (ag ⊕ Unit) :=
 match mB (s.2.1.2.1, ()) with
 | none => none
 | some r0 =>
  match mB (s.2.1.2.2.2.1, ()) with
  | none => none
  | some r1 =>
   match tN (r0.1, r1.1, ()) with
   | none => none
   | some r2 =>
    bif !r2.1 then
     match tN (r1.1, r0.1, ()) with
     | none => none
     | some r3 =>
      match dI (s.1, r0.1, r1.1, r3.1, s.2.1, s.2.2.1, s.2.2.2.1, s.2.2.2.2.1, s.2.2.2.2.2.1, s.2.2.2.2.2.2.1, s.2.2.2.2.2.2.2.1, s.2.2.2.2.2.2.2.2.1, s.2.2.2.2.2.2.2.2.2.1, s.2.2.2.2.2.2.2.2.2.2.1, ()) with
      | none => none
      | some (.inl z4) =>
       match gc (z4.1, z4.2.1, z4.2.2.1, z4.2.2.2.1, z4.2.2.2.2.1, z4.2.2.2.2.2.1, z4.2.2.2.2.2.2.1, z4.2.2.2.2.2.2.2.1, z4.2.2.2.2.2.2.2.2.1, z4.2.2.2.2.2.2.2.2.2.1, z4.2.2.2.2.2.2.2.2.2.2.1, z4.2.2.2.2.2.2.2.2.2.2.2.1, z4.2.2.2.2.2.2.2.2.2.2.2.2.1, ()) with
       | none => none
       | some (.inl z5) =>
        some (.inl (z5.1, z5.2.1, z5.2.2.1, z5.2.2.2.1, z5.2.2.2.2.1, z5.2.2.2.2.2.1, z5.2.2.2.2.2.2.1, ()))
       | some (.inr z5) =>
        none
      | some (.inr z4) =>
       none
    else
     match dI (s.1, r0.1, r1.1, true, s.2.1, s.2.2.1, s.2.2.2.1, s.2.2.2.2.1, s.2.2.2.2.2.1, s.2.2.2.2.2.2.1, s.2.2.2.2.2.2.2.1, s.2.2.2.2.2.2.2.2.1, s.2.2.2.2.2.2.2.2.2.1, s.2.2.2.2.2.2.2.2.2.2.1, ()) with
     | none => none
     | some (.inl z3) =>
      match gc (z3.1, z3.2.1, z3.2.2.1, z3.2.2.2.1, z3.2.2.2.2.1, z3.2.2.2.2.2.1, z3.2.2.2.2.2.2.1, z3.2.2.2.2.2.2.2.1, z3.2.2.2.2.2.2.2.2.1, z3.2.2.2.2.2.2.2.2.2.1, z3.2.2.2.2.2.2.2.2.2.2.1, z3.2.2.2.2.2.2.2.2.2.2.2.1, z3.2.2.2.2.2.2.2.2.2.2.2.2.1, ()) with
      | none => none
      | some (.inl z4) =>
       some (.inl (z4.1, z4.2.1, z4.2.2.1, z4.2.2.2.1, z4.2.2.2.2.1, z4.2.2.2.2.2.1, z4.2.2.2.2.2.2.1, ()))
      | some (.inr z4) =>
       none
     | some (.inr z3) =>
      none
def uL (s : TB × Unit) : Option (ag × Unit) :=
 match xr (s.1.2.1, ()) with
 | none => none
 | some r0 =>
  match xr (s.1.2.2.2.1, ()) with
  | none => none
  | some r1 =>
   let t2 : List UInt8 := (bif (Op.bytesLess r0.1 r1.1 || decide ((r0.1 : List UInt8) = r1.1)) then r0.1 else r1.1)
   let t3 : List UInt8 := (bif !(Op.bytesLess r0.1 r1.1) then r0.1 else r1.1)
   let t4 := (decide (((Int.tmod s.1.2.2.2.2.1 4) : Int) = 0))
   bif t4 then
    match mB (s.1.2.1, ()) with
    | none => none
    | some r5 =>
     match jZ (r5.1, ()) with
     | none => none
     | some r6 =>
      match cF (r0.1, s.1, 0, [], [], [], [], [], [], 0, r6.1, ()) with
      | none => none
      | some (.inl z7) =>
       some ((z7.1, (z7.2.1, (z7.2.2.1, (z7.2.2.2.1, (z7.2.2.2.2.1, (z7.2.2.2.2.2.1, (z7.2.2.2.2.2.2.1, ()))))))), ())
      | some (.inr z7) =>
       none
   else
    let t5 := (decide (((Int.tmod s.1.2.2.2.2.1 16) : Int) = 1))
    bif t5 then
     match cF (r0.1, s.1, 0, [], [], [], [], [], [], 0, (r0.1, ([], ())), ()) with
     | none => none
     | some (.inl z6) =>
      some ((z6.1, (z6.2.1, (z6.2.2.1, (z6.2.2.2.1, (z6.2.2.2.2.1, (z6.2.2.2.2.2.1, (z6.2.2.2.2.2.2.1, ()))))))), ())
     | some (.inr z6) =>
      none
    else
     let t6 := (decide (((Int.tmod s.1.2.2.2.2.1 16) : Int) = 5))
     bif t6 then
      match cF (r0.1, s.1, 0, [], [], [], [], [], [], 0, ([], ([], ())), ()) with
      | none => none
      | some (.inl z7) =>
       some ((z7.1, (z7.2.1, (z7.2.2.1, (z7.2.2.2.1, (z7.2.2.2.2.1, (z7.2.2.2.2.2.1, (z7.2.2.2.2.2.2.1, ()))))))), ())
      | some (.inr z7) =>
       none
     else
      bif decide ((r0.1 : List UInt8) = r1.1) then
       match qL (r0.1, ()) with
       | none => none
       | some r7 =>
        match cF (r0.1, s.1, 0, [], [], [], [], [], [], 0, r7.1, ()) with
        | none => none
        | some (.inl z8) =>
         some ((z8.1, (z8.2.1, (z8.2.2.1, (z8.2.2.2.1, (z8.2.2.2.2.1, (z8.2.2.2.2.2.1, (z8.2.2.2.2.2.2.1, ()))))))), ())
        | some (.inr z8) =>
         none
      else
       match cF (r0.1, s.1, 0, [], [], [], [], [], [], 0, (t2, (t3, ())), ()) with
       | none => none
       | some (.inl z7) =>
        some ((z7.1, (z7.2.1, (z7.2.2.1, (z7.2.2.2.1, (z7.2.2.2.2.1, (z7.2.2.2.2.2.1, (z7.2.2.2.2.2.2.1, ()))))))), ())
       | some (.inr z7) =>
        none
def mX (s : (List TB) × Int × Int × Bool × List ag × Unit) : Option (RO ⊕ ((List ag × Unit) ⊕ Unit)) :=
 bif s.2.2.2.1 then
  bif decide (0 <= s.2.2.1) && decide (s.2.2.1 < (List.length s.1 : Int)) then
   let t0 := (List.getD s.1 (Int.toNat s.2.2.1) (0, (0, (0, (0, (0, (0, ())))))))
   match uL (t0, ()) with
   | none => none
   | some r1 =>
    bif (decide ((List.length s.2.2.2.2.1 + List.length ([r1.1] : List ag)) * 112 <= am)) then
     let t2 : List ag := (s.2.2.2.2.1 ++ ([r1.1] : List ag))
     some (.inl (s.1, s.2.1, (IntKind.i64.wrap (s.2.2.1 + 1)), t2, ()))
    else none
  else none
 else
  some (.inr (.inl (s.2.2.2.2.1, ())))

def o9 (s : RO) : Option (RO ⊕ ((List ag × Unit) ⊕ Unit)) :=
 let t0 := (decide (s.2.2.1 < ((List.length s.1) : Int)))
 bif t0 then
  mX (s.1, s.2.1, s.2.2.1, (decide (s.2.2.1 < s.2.1)), s.2.2.2.1, ())
 else
  mX (s.1, s.2.1, s.2.2.1, false, s.2.2.2.1, ())
def aa1 := aQ o9
def acC (s : (List TB) × Int × Unit) : Option (List ag × Unit) :=
 match aa1 (s.1, s.2.1, 0, [], ()) with
 | none => none
 | some (.inl z0) =>
  some (z0.1, ())
 | some (.inr z0) =>
  none
def gf (s : Int × Bool × ag × Unit) : Option (List aa × Unit) :=
 bif s.2.1 then
  match jZ (s.2.2.1.2.2.2.2.1, ()) with
  | none => none
  | some r0 =>
   some (([r0.1] : List aa), ())
 else
  bif decide (s.1 = 6) then
   some (([s.2.2.1.2.2.2.1] : List aa), ())
  else
   some ([], ())

def gz (s : ag × Unit) : Option (List aa × Unit) :=
 bif decide (s.1.1 = 4) then
  gf (s.1.1, true, s.1, ())
 else
  gf (s.1.1, (decide (s.1.1 = 5)), s.1, ())
def fh (s : Int × Bool × ag × Unit) : Option (List aa × Unit) :=
 bif s.2.1 then
  match qL (s.2.2.1.2.1, ()) with
  | none => none
  | some r0 =>
   some (([r0.1] : List aa), ())
 else
  bif decide (s.1 = 4) then
   match jZ (s.2.2.1.2.2.2.2.1, ()) with
   | none => none
   | some r0 =>
    match jZ (s.2.2.1.2.2.2.2.2.1, ()) with
    | none => none
    | some r1 =>
     some (([r0.1, r1.1] : List aa), ())
  else
   bif decide (s.1 = 5) then
    match jZ (s.2.2.1.2.2.2.2.2.1, ()) with
    | none => none
    | some r0 =>
     some (([r0.1] : List aa), ())
   else
    some (([s.2.2.1.2.2.2.1] : List aa), ())

def fg (s : ag × Unit) : Option (List aa × Unit) :=
 bif decide (s.1.1 = 1) then
  fh (s.1.1, true, s.1, ())
 else
  fh (s.1.1, (decide (s.1.1 = 2)), s.1, ())
def jY (s : T5) : Option (Bool × Unit) :=
 match kj (s.2.1, ()) with
 | none => none
 | some r0 =>
  bif !r0.1 then
   match kj (s.1, ()) with
   | none => none
   | some r1 =>
    bif !r1.1 then
     let t2 := (Op.bytesLess s.1.1 s.2.1.1 || decide ((s.1.1 : List UInt8) = s.2.1.1))
     bif t2 then
      match sw (s.1.2.1, s.2.1.2.1, ()) with
      | none => none
      | some r3 =>
       some ((!r3.1), ())
     else
      some (false, ())
    else
     some (false, ())
  else
   some (true, ())
def kn (s : Int × aa × List aa × Unit) : Option ((Int × aa × List aa × Unit) ⊕ ((Bool × Unit) ⊕ Unit)) :=
 let t0 := (decide (s.1 < ((List.length s.2.2.1) : Int)))
 bif t0 then
  bif decide (0 <= s.1) && decide (s.1 < (List.length s.2.2.1 : Int)) then
   let t1 := (List.getD s.2.2.1 (Int.toNat s.1) ([], ([], ())))
   match jY (s.2.1, t1, ()) with
   | none => none
   | some r2 =>
    bif !r2.1 then
     some (.inr (.inl (false, ())))
    else
     some (.inl ((IntKind.i64.wrap (s.1 + 1)), s.2.1, s.2.2.1, ()))
  else none
 else
  some (.inr (.inr (())))
def vi := aQ kn
def ref08_Lies (s : ag × aa × Unit) : Option (Bool × Unit) :=
 match gz (s.1, ()) with
 | none => none
 | some r0 =>
  bif (decide ((List.length ([] : List aa) + List.length r0.1) * 32 <= am)) then
   let t1 : List aa := ([] ++ r0.1)
   match fg (s.1, ()) with
   | none => none
   | some r2 =>
    bif decide ((List.length t1 + List.length r2.1) * 32 <= am) then
     match vi (0, s.2.1, (t1 ++ r2.1), ()) with
     | none => none
     | some (.inl z3) =>
      some (z3.1, ())
     | some (.inr z3) =>
      some (true, ())
    else none
  else none
def gm (s : Int × Int × Bool × aa × List ag × List ag × Unit) : Option (Tz ⊕ ((List ag × Unit) ⊕ Unit)) :=
 bif s.2.2.1 then
  bif decide (0 <= s.2.1) && decide (s.2.1 < (List.length s.2.2.2.2.2.1 : Int)) then
   let t0 := (List.getD s.2.2.2.2.2.1 (Int.toNat s.2.1) (0, ([], ([], (([], ([], ())), ([], ([], (0, ()))))))))
   match ref08_Lies (t0, s.2.2.2.1, ()) with
   | none => none
   | some r1 =>
    bif r1.1 then
     bif decide (0 <= s.2.1) && decide (s.2.1 < (List.length s.2.2.2.2.2.1 : Int)) then
      let t2 := (List.getD s.2.2.2.2.2.1 (Int.toNat s.2.1) (0, ([], ([], (([], ([], ())), ([], ([], (0, ()))))))))
      bif (decide ((List.length s.2.2.2.2.1 + List.length ([t2] : List ag)) * 112 <= am)) then
       let t3 : List ag := (s.2.2.2.2.1 ++ ([t2] : List ag))
       some (.inl (s.1, (IntKind.i64.wrap (s.2.1 + 1)), s.2.2.2.1, t3, s.2.2.2.2.2.1, ()))
      else none
     else none
    else
     some (.inl (s.1, (IntKind.i64.wrap (s.2.1 + 1)), s.2.2.2.1, s.2.2.2.2.1, s.2.2.2.2.2.1, ()))
  else none
 else
  some (.inr (.inl (s.2.2.2.2.1, ())))

def i6 (s : Tz) : Option (Tz ⊕ ((List ag × Unit) ⊕ Unit)) :=
 let t0 := (decide (s.2.1 < ((List.length s.2.2.2.2.1) : Int)))
 bif t0 then
  let t1 := (decide ((((List.length s.2.2.2.1) : Int) : Int) < s.1))
  gm (s.1, s.2.1, t1, s.2.2.1, s.2.2.2.1, s.2.2.2.2.1, ())
 else
  gm (s.1, s.2.1, false, s.2.2.1, s.2.2.2.1, s.2.2.2.2.1, ())
def uO := aQ i6
def mC (s : (List TB) × aa × Int × Unit) : Option (List ag × Unit) :=
 match acC (s.1, (IntKind.i64.wrap (3 * s.2.2.1)), ()) with
 | none => none
 | some r0 =>
  match uO (s.2.2.1, 0, s.2.1, [], r0.1, ()) with
  | none => none
  | some (.inl z1) =>
   some (z1.1, ())
  | some (.inr z1) =>
   none
def tY (ref12_build_r : R8 -> Option (aO × Unit)) (s : List ae × (List (List (List UInt8))) × Int × List UInt8 × Bool × ah × aa × aA × List aq × Int × (List (List UInt8)) × Unit) : Option (RI ⊕ (RJ ⊕ Unit)) :=
 bif s.2.2.2.2.1 then
  bif (decide ((List.length s.2.2.2.2.2.2.2.2.2.2.1 + List.length ([s.2.2.2.1] : List (List UInt8))) * 16 <= am)) then
   let t0 : List (List UInt8) := (s.2.2.2.2.2.2.2.2.2.2.1 ++ ([s.2.2.2.1] : List (List UInt8)))
   some (.inl (s.1, s.2.1, (IntKind.i64.wrap (s.2.2.1 + 1)), s.2.2.2.2.2.1, s.2.2.2.2.2.2.1, s.2.2.2.2.2.2.2.1, s.2.2.2.2.2.2.2.2.1, s.2.2.2.2.2.2.2.2.2.1, t0, ()))
  else none
 else
  some (.inl (s.1, s.2.1, (IntKind.i64.wrap (s.2.2.1 + 1)), s.2.2.2.2.2.1, s.2.2.2.2.2.2.1, s.2.2.2.2.2.2.2.1, s.2.2.2.2.2.2.2.2.1, s.2.2.2.2.2.2.2.2.2.1, s.2.2.2.2.2.2.2.2.2.2.1, ()))

def mY (ref12_build_r : R8 -> Option (aO × Unit)) (s : RI) : Option (RI ⊕ (RJ ⊕ Unit)) :=
 bif decide ((0 : Int) < (List.length s.2.1 : Int)) then
  let t0 := (List.getD s.2.1 0 [])
  let t1 := (decide (s.2.2.1 < ((List.length t0) : Int)))
  bif t1 then
   bif decide ((0 : Int) < (List.length s.2.1 : Int)) then
    let t2 := (List.getD s.2.1 0 [])
    bif decide (0 <= s.2.2.1) && decide (s.2.2.1 < (List.length t2 : Int)) then
     let t3 := (List.getD t2 (Int.toNat s.2.2.1) [])
     let t4 := (!(Op.bytesLess t3 s.2.2.2.2.1.1 || decide ((t3 : List UInt8) = s.2.2.2.2.1.1)))
     bif t4 then
      match ab8 (s.2.2.2.2.1, t3, ()) with
      | none => none
      | some r5 =>
       tY ref12_build_r (s.1, s.2.1, s.2.2.1, t3, r5.1, s.2.2.2.1, s.2.2.2.2.1, s.2.2.2.2.2.1, s.2.2.2.2.2.2.1, s.2.2.2.2.2.2.2.1, s.2.2.2.2.2.2.2.2.1, ())
     else
      tY ref12_build_r (s.1, s.2.1, s.2.2.1, t3, false, s.2.2.2.1, s.2.2.2.2.1, s.2.2.2.2.2.1, s.2.2.2.2.2.2.1, s.2.2.2.2.2.2.2.1, s.2.2.2.2.2.2.2.2.1, ())
    else none
   else none
  else
   some (.inr (.inl (s.1, s.2.1, s.2.2.2.1, s.2.2.2.2.1, s.2.2.2.2.2.1, s.2.2.2.2.2.2.1, s.2.2.2.2.2.2.2.1, s.2.2.2.2.2.2.2.2.1, ())))
 else none
def ub (ref12_build_r : R8 -> Option (aO × Unit)) (s : RI) : Option (RJ ⊕ Unit) := aQ (mY ref12_build_r) s
def lh (ref12_build_r : R8 -> Option (aO × Unit)) (s : RG) : Option (RG ⊕ ((ah × aa × aA × List aq × Int × List ae × List ag × (List (List UInt8)) × List Int × List api_Sum × Unit) ⊕ Unit)) :=
 let t0 : Int := ((List.length s.2.2.2.2.2.2.2.2.2.2.1) : Int)
 bif decide (s.2.2.1 < t0) then
  bif decide (0 <= s.2.2.1) && decide (s.2.2.1 < (List.length s.2.2.2.2.2.2.2.2.2.2.1 : Int)) then
   let t1 := (List.getD s.2.2.2.2.2.2.2.2.2.2.1 (Int.toNat s.2.2.1) ([], ([], ())))
   bif (decide ((1 : Int) <= (List.length s.2.1 : Int)) && decide (((List.length s.2.1 : Int) : Int) <= (List.length s.2.1 : Int))) then
    let t2 := (List.drop (Int.toNat 1) (List.take (Int.toNat (List.length s.2.1 : Int)) s.2.1))
    match ref12_build_r (s.2.2.2.1, s.1, t1, t2, s.2.2.2.2.2.1, ()) with
    | none => none
    | some r3 =>
     match ab9 (r3.1.1, r3.1.2.1, ()) with
     | none => none
     | some r4 =>
      bif (decide ((List.length s.2.2.2.2.2.2.2.2.2.2.2.2.1 + List.length ([r3.1.2.1] : List Int)) * 8 <= am)) then
       let t5 : List Int := (s.2.2.2.2.2.2.2.2.2.2.2.2.1 ++ ([r3.1.2.1] : List Int))
       match jt (r4.1, ()) with
       | none => none
       | some r6 =>
        bif (decide ((List.length s.2.2.2.2.2.2.2.2.2.2.2.2.2.1 + List.length ([r6.1] : List api_Sum)) * 32 <= am)) then
         let t7 : List api_Sum := (s.2.2.2.2.2.2.2.2.2.2.2.2.2.1 ++ ([r6.1] : List api_Sum))
         some (.inl (s.1, s.2.1, (IntKind.i64.wrap (s.2.2.1 + 1)), r3.1.1, s.2.2.2.2.1, s.2.2.2.2.2.1, s.2.2.2.2.2.2.1, s.2.2.2.2.2.2.2.1, s.2.2.2.2.2.2.2.2.1, s.2.2.2.2.2.2.2.2.2.1, s.2.2.2.2.2.2.2.2.2.2.1, s.2.2.2.2.2.2.2.2.2.2.2.1, t5, t7, ()))
        else none
      else none
   else none
  else none
 else
  some (.inr (.inl (s.2.2.2.1, s.2.2.2.2.1, s.2.2.2.2.2.1, s.2.2.2.2.2.2.1, s.2.2.2.2.2.2.2.1, s.2.2.2.2.2.2.2.2.1, s.2.2.2.2.2.2.2.2.2.1, s.2.2.2.2.2.2.2.2.2.2.2.1, s.2.2.2.2.2.2.2.2.2.2.2.2.1, s.2.2.2.2.2.2.2.2.2.2.2.2.2.1, ())))
def uc (ref12_build_r : R8 -> Option (aO × Unit)) (s : RG) : Option ((ah × aa × aA × List aq × Int × List ae × List ag × (List (List UInt8)) × List Int × List api_Sum × Unit) ⊕ Unit) := aQ (lh ref12_build_r) s
def mZ (ref12_build_r : R8 -> Option (aO × Unit)) (s : RH) : Option (RH ⊕ ((List aq × Int × gC × ah × Unit) ⊕ Unit)) :=
 let t0 := (decide (s.1 < ((List.length s.2.2.2.2.2.2.2.1) : Int)))
 bif t0 then
  bif decide (0 <= s.1) && decide (s.1 < (List.length s.2.2.2.2.2.2.2.1 : Int)) then
   let t1 := (List.getD s.2.2.2.2.2.2.2.1 (Int.toNat s.1) 0)
   match uM (s.2.2.2.2.2.1, t1, ()) with
   | none => none
   | some r2 =>
    some (.inl ((IntKind.i64.wrap (s.1 + 1)), s.2.1, s.2.2.1, s.2.2.2.1, s.2.2.2.2.1, r2.1, s.2.2.2.2.2.2.1, s.2.2.2.2.2.2.2.1, s.2.2.2.2.2.2.2.2.1, s.2.2.2.2.2.2.2.2.2.1, ()))
  else none
 else
  some (.inr (.inl (s.2.1, s.2.2.1, s.2.2.2.2.1, s.2.2.2.2.2.1, ())))
def ud (ref12_build_r : R8 -> Option (aO × Unit)) (s : RH) : Option ((List aq × Int × gC × ah × Unit) ⊕ Unit) := aQ (mZ ref12_build_r) s
def li (ref12_build_r : R8 -> Option (aO × Unit)) (s : ah × List aq × Int × List ae × (List (List UInt8)) × List Int × List api_Sum × List ag × Unit) : Option (aO × Unit) :=
 match sV (s.1, (s.2.2.2.1, (s.2.2.2.2.1, (s.2.2.2.2.2.1, (s.2.2.2.2.2.2.1, (s.2.2.2.2.2.2.2.1, ()))))), ()) with
 | none => none
 | some r0 =>
  match ud ref12_build_r (0, s.2.1, s.2.2.1, s.2.2.2.1, r0.1, r0.1.1, s.2.2.2.2.1, s.2.2.2.2.2.1, s.2.2.2.2.2.2.1, s.2.2.2.2.2.2.2.1, ()) with
  | none => none
  | some (.inl z1) =>
   some ((z1.2.2.2.1, (z1.2.2.1.2.1, ())), ())
  | some (.inr z1) =>
   none
def qc (ref12_build_r : R8 -> Option (aO × Unit)) (s : Int × ah × aa × aA × List aq × Int × List ae × List ag × (List (List UInt8)) × List Int × List api_Sum × Unit) : Option (aO × Unit) :=
 bif decide (0 <= s.1) && decide (s.1 < 4) then
  bif (Nat.beq (Int.toNat s.1) 3) then
   match mC (s.2.2.2.1.2.1.2.2.2.1, s.2.2.1, 5, ()) with
   | none => none
   | some r0 =>
    li ref12_build_r (s.2.1, s.2.2.2.2.1, s.2.2.2.2.2.1, s.2.2.2.2.2.2.1, s.2.2.2.2.2.2.2.2.1, s.2.2.2.2.2.2.2.2.2.1, s.2.2.2.2.2.2.2.2.2.2.1, r0.1, ())
  else
   bif (Nat.beq (Int.toNat s.1) 2) then
    match mC (s.2.2.2.1.2.1.2.2.1, s.2.2.1, 5, ()) with
    | none => none
    | some r0 =>
     li ref12_build_r (s.2.1, s.2.2.2.2.1, s.2.2.2.2.2.1, s.2.2.2.2.2.2.1, s.2.2.2.2.2.2.2.2.1, s.2.2.2.2.2.2.2.2.2.1, s.2.2.2.2.2.2.2.2.2.2.1, r0.1, ())
   else
    bif (Nat.beq (Int.toNat s.1) 1) then
     match mC (s.2.2.2.1.2.1.2.1, s.2.2.1, 5, ()) with
     | none => none
     | some r0 =>
      li ref12_build_r (s.2.1, s.2.2.2.2.1, s.2.2.2.2.2.1, s.2.2.2.2.2.2.1, s.2.2.2.2.2.2.2.2.1, s.2.2.2.2.2.2.2.2.2.1, s.2.2.2.2.2.2.2.2.2.2.1, r0.1, ())
    else
     bif (Nat.beq (Int.toNat s.1) 0) then
      match mC (s.2.2.2.1.2.1.1, s.2.2.1, 5, ()) with
      | none => none
      | some r0 =>
       li ref12_build_r (s.2.1, s.2.2.2.2.1, s.2.2.2.2.2.1, s.2.2.2.2.2.2.1, s.2.2.2.2.2.2.2.2.1, s.2.2.2.2.2.2.2.2.2.1, s.2.2.2.2.2.2.2.2.2.2.1, r0.1, ())
     else none
 else none
def ua (ref12_build_r : R8 -> Option (aO × Unit)) (s : RJ) : Option (aO × Unit) :=
 let t0 := (decide ((((List.length s.2.1) : Int) : Int) = 0))
 bif t0 then
  match zC (s.1, s.2.2.2.1, ()) with
  | none => none
  | some r1 =>
   match sV (s.2.2.1, (r1.1, (s.2.2.2.2.2.2.2.1, ([], ([], ([], ()))))), ()) with
   | none => none
   | some r2 =>
    some ((r2.1.1, (r2.1.2.1, ())), ())
 else
  let t1 := (IntKind.i64.wrap (((List.length s.2.2.2.2.2.2.2.1) : Int) + 1))
  bif (decide (0 <= t1) && decide (t1 <= t1) && decide (t1 * 8 <= (am : Int))) then
   match vG ((([] : List ae), (s.2.2.2.2.2.2.2.1, ((List.replicate (Int.toNat t1) (0 : Int)), (([] : List api_Sum), (([] : List ag), ()))))), s.2.2.2.1, ()) with
   | none => none
   | some r2 =>
    match uc ref12_build_r (s.1, s.2.1, 0, s.2.2.1, s.2.2.2.1, s.2.2.2.2.1, s.2.2.2.2.2.1, s.2.2.2.2.2.2.1, [], [], r2.1, s.2.2.2.2.2.2.2.1, [], [], ()) with
    | none => none
    | some (.inl z3) =>
     let t4 := (!(Ty.eqb ac z3.2.1 ([], ([], ()))))
     bif t4 then
      let t5 : Int := (Int.tmod ((List.length z3.2.1.1) : Int) 3)
      qc ref12_build_r ((IntKind.i64.wrap (1 + t5)), z3.1, z3.2.1, z3.2.2.1, z3.2.2.2.1, z3.2.2.2.2.1, z3.2.2.2.2.2.1, z3.2.2.2.2.2.2.1, z3.2.2.2.2.2.2.2.1, z3.2.2.2.2.2.2.2.2.1, z3.2.2.2.2.2.2.2.2.2.1, ())
     else
      qc ref12_build_r (0, z3.1, z3.2.1, z3.2.2.1, z3.2.2.2.1, z3.2.2.2.2.1, z3.2.2.2.2.2.1, z3.2.2.2.2.2.2.1, z3.2.2.2.2.2.2.2.1, z3.2.2.2.2.2.2.2.2.1, z3.2.2.2.2.2.2.2.2.2.1, ())
    | some (.inr z3) =>
     none
  else none

def i5 (ref12_build_r : R8 -> Option (aO × Unit)) (s : R8) : Option (aO × Unit) :=
 let t0 := (decide ((((List.length s.2.2.2.1) : Int) : Int) > 0))
 bif t0 then
  match ub ref12_build_r (s.2.1, s.2.2.2.1, 0, s.1, s.2.2.1, s.2.2.2.2.1, [], 0, [], ()) with
  | none => none
  | some (.inl z1) =>
   ua ref12_build_r (z1.1, z1.2.1, z1.2.2.1, z1.2.2.2.1, z1.2.2.2.2.1, z1.2.2.2.2.2.1, z1.2.2.2.2.2.2.1, z1.2.2.2.2.2.2.2.1, ())
  | some (.inr z1) =>
   none
 else
  ua ref12_build_r (s.2.1, s.2.2.2.1, s.1, s.2.2.1, s.2.2.2.2.1, [], 0, [], ())
def kP : Nat -> R8 -> Option (aO × Unit)
 | 0, _ => none
 | n + 1, s => i5 (kP n) s
def zE (s : R8) : Option (aO × Unit) := kP aco s
def acI (s : aA × Unit) : Option (az × Unit) :=
 match yM (s.1.1, ()) with
 | none => none
 | some r0 =>
  let t1 := IntKind.i64.wrap (Int.tmod s.1.2.2.1 4)
  bif (decide (0 <= t1) && decide (t1 < (List.length ([[], ([([([97, 47, 98, 47] : List UInt8), ([98, 47] : List UInt8), ([99, 47] : List UInt8)] : List (List UInt8))] : List (List (List UInt8))), ([([([98, 47] : List UInt8)] : List (List UInt8)), ([([97, 47, 2] : List UInt8), ([97, 47, 98, 47] : List UInt8), ([99, 47] : List UInt8)] : List (List UInt8))] : List (List (List UInt8))), ([([([97, 47, 98, 47] : List UInt8), ([98, 47] : List UInt8)] : List (List UInt8)), ([([97, 47, 98, 47, 2] : List UInt8), ([99, 47] : List UInt8), ([100, 47] : List UInt8)] : List (List UInt8))] : List (List (List UInt8)))] : List (List (List (List UInt8)))) : Int))) then
   let t2 := (List.getD ([[], ([([([97, 47, 98, 47] : List UInt8), ([98, 47] : List UInt8), ([99, 47] : List UInt8)] : List (List UInt8))] : List (List (List UInt8))), ([([([98, 47] : List UInt8)] : List (List UInt8)), ([([97, 47, 2] : List UInt8), ([97, 47, 98, 47] : List UInt8), ([99, 47] : List UInt8)] : List (List UInt8))] : List (List (List UInt8))), ([([([97, 47, 98, 47] : List UInt8), ([98, 47] : List UInt8)] : List (List UInt8)), ([([97, 47, 98, 47, 2] : List UInt8), ([99, 47] : List UInt8), ([100, 47] : List UInt8)] : List (List UInt8))] : List (List (List UInt8)))] : List (List (List (List UInt8)))) (Int.toNat t1) [])
   match zE (([], ()), r0.1, ([], ([], ())), t2, s.1, ()) with
   | none => none
   | some r3 =>
    let t4 := (IntKind.u8.wrap (Int.tdiv s.1.2.2.1 4))
    let t5 := IntKind.i64.wrap (Int.tmod t4 4)
    let t6 := (IntKind.u8.wrap (Int.tdiv s.1.2.2.1 16))
    let t7 := IntKind.i64.wrap (Int.tmod t6 3)
    let t8 := (IntKind.u8.wrap (Int.tdiv s.1.2.2.1 64))
    let t9 := IntKind.i64.wrap (1 + (IntKind.i64.wrap t8))
    some ((r3.1.1, (r3.1.2.1, (((IntKind.i64.wrap (2 + t5)), ((IntKind.i64.wrap (2 + t7)), (t9, ()))), ()))), ())
  else none
def acz (s : aP) : Option (Bool × Unit) :=
 bif decide (s.2.1 <= s.1) then
  some ((decide (s.1 <= s.2.2.1)), ())
 else
  some (false, ())
def aay (s : ag × Unit) : Option (Bool × Unit) :=
 match acz (((List.length s.1.2.1) : Int), 1, 65535, ()) with
 | none => none
 | some r0 =>
  bif r0.1 then
   let t1 := (decide ((((List.length s.1.2.2.1) : Int) : Int) <= 64))
   bif t1 then
    match acz (s.1.2.2.2.2.2.2.1, 0, 1000000000, ()) with
    | none => none
    | some r2 =>
     some (r2.1, ())
   else
    some (false, ())
  else
   some (false, ())
def ac0 (s : ag × Unit) : Option (ag × Unit) :=
 some ((s.1.1, (s.1.2.1, (s.1.2.2.1, (([], ([], ())), ([], ([], (s.1.2.2.2.2.2.2.1, ()))))))), ())
def aau (s : ag × Unit) : Option (Bool × Unit) :=
 match acz (((List.length s.1.2.1) : Int), 1, 65535, ()) with
 | none => none
 | some r0 =>
  some (r0.1, ())
def acy (s : ag × Unit) : Option (ag × Unit) :=
 some ((s.1.1, (s.1.2.1, ([], (([], ([], ())), ([], ([], (0, ()))))))), ())
def aeV (s : aa × Unit) : Option (Bool × Unit) :=
 match jD (s.1, ()) with
 | none => none
 | some r0 =>
  bif !r0.1 then
   let t1 : Int := (if (((List.length s.1.1) : Int) : Int) < ((List.length s.1.2.1) : Int) then ((List.length s.1.2.1) : Int) else ((List.length s.1.1) : Int))
   some ((decide (t1 <= 65535)), ())
  else
   some (false, ())
def yq (s : ag × Unit) : Option (Bool × Unit) :=
 match aeV (s.1.2.2.2.1, ()) with
 | none => none
 | some r0 =>
  some (r0.1, ())
def aav (s : ag × Unit) : Option (ag × Unit) :=
 some ((s.1.1, ([], ([], (s.1.2.2.2.1, ([], ([], (0, ()))))))), ())
def abw (s : aa) : Option (Bool × Unit) :=
 match acz (((List.length s.1) : Int), 1, 200, ()) with
 | none => none
 | some r0 =>
  bif r0.1 then
   match acz (((List.length s.2.1) : Int), 1, 200, ()) with
   | none => none
   | some r1 =>
    bif r1.1 then
     match mq (s.1, s.2.1, ()) with
     | none => none
     | some r2 =>
      bif !r2.1 then
       match mq (s.2.1, s.1, ()) with
       | none => none
       | some r3 =>
        some ((!r3.1), ())
      else
       some (false, ())
    else
     some (false, ())
  else
   some (false, ())
def yu (s : ag × Unit) : Option (Bool × Unit) :=
 match abw (s.1.2.2.2.2.1, s.1.2.2.2.2.2.1, ()) with
 | none => none
 | some r0 =>
  some (r0.1, ())
def aaw (s : ag × Unit) : Option (ag × Unit) :=
 some ((s.1.1, ([], ([], (([], ([], ())), (s.1.2.2.2.2.1, (s.1.2.2.2.2.2.1, (0, ()))))))), ())
def wq (s : ag × Unit) : Option (Bool × Unit) :=
 match abw (s.1.2.2.2.2.1, s.1.2.2.2.2.2.1, ()) with
 | none => none
 | some r0 =>
  some (r0.1, ())
def yk (s : ag × Unit) : Option (ag × Unit) :=
 some ((s.1.1, ([], ([], (([], ([], ())), (s.1.2.2.2.2.1, (s.1.2.2.2.2.2.1, (0, ()))))))), ())
def wv (s : ag × Unit) : Option (Bool × Unit) :=
 match aeV (s.1.2.2.2.1, ()) with
 | none => none
 | some r0 =>
  bif r0.1 then
   match acz (s.1.2.2.2.2.2.2.1, 0, 1000000000, ()) with
   | none => none
   | some r1 =>
    some (r1.1, ())
  else
   some (false, ())
def y7 (s : ag × Unit) : Option (ag × Unit) :=
 some ((s.1.1, ([], ([], (s.1.2.2.2.1, ([], ([], (s.1.2.2.2.2.2.2.1, ()))))))), ())
def o6 (s : ag × Unit) : Option (Bool × Unit) :=
 bif decide (s.1.1 = 1) then
  match aay (s.1, ()) with
  | none => none
  | some r0 =>
   bif r0.1 then
    match ac0 (s.1, ()) with
    | none => none
    | some r1 =>
     let t2 := (Ty.eqb aj r1.1 s.1)
     some (t2, ())
   else
    some (false, ())
 else
  bif decide (s.1.1 = 2) then
   match aau (s.1, ()) with
   | none => none
   | some r0 =>
    bif r0.1 then
     match acy (s.1, ()) with
     | none => none
     | some r1 =>
      let t2 := (Ty.eqb aj r1.1 s.1)
      some (t2, ())
    else
     some (false, ())
  else
   bif decide (s.1.1 = 3) then
    match yq (s.1, ()) with
    | none => none
    | some r0 =>
     bif r0.1 then
      match aav (s.1, ()) with
      | none => none
      | some r1 =>
       let t2 := (Ty.eqb aj r1.1 s.1)
       some (t2, ())
     else
      some (false, ())
   else
    bif decide (s.1.1 = 4) then
     match yu (s.1, ()) with
     | none => none
     | some r0 =>
      bif r0.1 then
       match aaw (s.1, ()) with
       | none => none
       | some r1 =>
        let t2 := (Ty.eqb aj r1.1 s.1)
        some (t2, ())
      else
       some (false, ())
    else
     bif decide (s.1.1 = 5) then
      match wq (s.1, ()) with
      | none => none
      | some r0 =>
       bif r0.1 then
        match yk (s.1, ()) with
        | none => none
        | some r1 =>
         let t2 := (Ty.eqb aj r1.1 s.1)
         some (t2, ())
       else
        some (false, ())
     else
      bif decide (s.1.1 = 6) then
       match wv (s.1, ()) with
       | none => none
       | some r0 =>
        bif r0.1 then
         match y7 (s.1, ()) with
         | none => none
         | some r1 =>
          let t2 := (Ty.eqb aj r1.1 s.1)
          some (t2, ())
        else
         some (false, ())
      else
       some (false, ())
def cG (s : List ae × Unit) : Option (List ae × Unit) := bif (decide ((List.length ([] : List ae) + List.length s.1) * 40 <= am)) then some (s.1, ()) else none
def mH (s : Int × List ae × List ae × Unit) : Option TU := avx 40 s
def apP (s : List ae × ae × Unit) : Option (List ae × Unit) :=
 match vW (s.1, s.2.1.1, ()) with
 | none => none
 | some r0 =>
  match cG (s.1, ()) with
  | none => none
  | some r1 =>
   bif r0.2.1 then
    bif decide (0 <= r0.1) && decide (r0.1 < (List.length r1.1 : Int)) then
     some ((List.set r1.1 (Int.toNat r0.1) s.2.1), ())
    else none
   else
    match mH (r0.1, r1.1, ([s.2.1] : List ae), ()) with
    | none => none
    | some r2 =>
     some (r2.2.1, ())
def ahk (s : TZ) : Option (List ae × Unit) :=
 match apP (s.2.1, (s.1.2.1, (s.1.2.2.1, (s.1.2.2.2.2.2.2.1, ()))), ()) with
 | none => none
 | some r0 =>
  some (r0.1, ())
def acS (s : TY) : Option dS :=
 match jD (s.2.1, ()) with
 | none => none
 | some r0 =>
  bif r0.1 then
   some (0, 0, ())
  else
   match vW (s.1, s.2.1.1, ()) with
   | none => none
   | some r1 =>
    let t2 := (!decide ((s.2.1.2.1 : List UInt8) = []))
    bif t2 then
     match vW (s.1, s.2.1.2.1, ()) with
     | none => none
     | some r3 =>
      some (r1.1, r3.1, ())
    else
     some (r1.1, ((List.length s.1) : Int), ())
def nF (s : Int × Unit) : Option (List ae × Unit) :=
 bif decide (s.1 < 0) then
  none
 else
  let t0 := IntKind.i64.wrap (0 - 0)
  let t1 := (decide (((IntKind.i64.wrap (s.1 - t0)) : Int) > 0))
  bif t1 then
   bif (decide (0 < (IntKind.i64.wrap (s.1 - t0))) && decide ((IntKind.i64.wrap (s.1 - t0)) * 40 <= (am : Int))) then
    bif (decide (((0 : Int) : Int) <= (List.length (List.replicate (Int.toNat (IntKind.i64.wrap (s.1 - t0))) (([] : List UInt8), (([] : List UInt8), ((0 : Int), ())))) : Int))) then
     let t2 := (List.take 0 (List.replicate (Int.toNat (IntKind.i64.wrap (s.1 - t0))) (([] : List UInt8), (([] : List UInt8), ((0 : Int), ())))))
     some (t2, ())
    else none
   else none
  else
   some ([], ())
def ln (s : R4) : Option (R4 ⊕ (((List (List ae)) × Int × Unit) ⊕ Unit)) :=
 let t0 := decide (s.2.2.2.2.1 < s.2.2.2.1)
 bif t0 then
  bif decide (0 <= s.2.2.2.2.1) && decide (s.2.2.2.2.1 < (List.length s.2.2.1 : Int)) then
   let t1 := (List.getD s.2.2.1 (Int.toNat s.2.2.2.2.1) [])
   let t2 := (IntKind.i64.wrap (s.2.1 + ((List.length t1) : Int)))
   bif decide (t2 < 0) then
    none
   else
    let t3 := IntKind.i64.wrap (s.2.2.2.2.1 + 1)
    some (.inl (s.1, t2, s.2.2.1, s.2.2.2.1, t3, ()))
  else none
 else
  some (.inr (.inl (s.1, s.2.1, ())))
def lu := aQ ln
def lq (s : (List (List ae)) × Int × Int × List ae × Unit) : Option (((List (List ae)) × Int × Int × List ae × Unit) ⊕ ((List ae × Unit) ⊕ Unit)) :=
 bif decide (s.2.2.1 < s.2.1) then
  bif decide (0 <= s.2.2.1) && decide (s.2.2.1 < (List.length s.1 : Int)) then
   let t0 := (List.getD s.1 (Int.toNat s.2.2.1) [])
   bif decide ((List.length s.2.2.2.1 + List.length t0) * 40 <= am) then
    some (.inl (s.1, s.2.1, (IntKind.i64.wrap (s.2.2.1 + 1)), (s.2.2.2.1 ++ t0), ()))
   else none
  else none
 else
  some (.inr (.inl (s.2.2.2.1, ())))
def lw := aQ lq
def mG (s : (List (List ae)) × Unit) : Option (List ae × Unit) :=
 match lu (s.1, 0, s.1, ((List.length s.1) : Int), 0, ()) with
 | none => none
 | some (.inl z0) =>
  match nF (z0.2.1, ()) with
  | none => none
  | some r1 =>
   match lw (z0.1, ((List.length z0.1) : Int), 0, r1.1, ()) with
   | none => none
   | some (.inl z2) =>
    some (z2.1, ())
   | some (.inr z2) =>
    none
 | some (.inr z0) =>
  none
def yV (s : TY) : Option (List ae × Unit) :=
 match acS (s.1, s.2.1, ()) with
 | none => none
 | some r0 =>
  bif decide ((0 : Int) <= r0.1) && decide (r0.1 <= (List.length s.1 : Int)) then
   let t1 := (List.drop 0 (List.take (Int.toNat r0.1) s.1))
   bif (decide (0 <= r0.2.1) && decide (r0.2.1 <= (List.length s.1 : Int)) && decide (((List.length s.1 : Int) : Int) <= (List.length s.1 : Int))) then
    let t2 := (List.drop (Int.toNat r0.2.1) (List.take (Int.toNat (List.length s.1 : Int)) s.1))
    match mG (([t1, t2] : List (List ae)), ()) with
    | none => none
    | some r3 =>
     some (r3.1, ())
   else none
  else none
def apO (s : TQ) : Option (List ae × Unit) :=
 match yS (s.2.1, ()) with
 | none => none
 | some r0 =>
  match yV (s.1, r0.1, ()) with
  | none => none
  | some r1 =>
   some (r1.1, ())
def ahj (s : TZ) : Option (List ae × Unit) :=
 match apO (s.2.1, s.1.2.1, ()) with
 | none => none
 | some r0 =>
  some (r0.1, ())
def aeU (s : TZ) : Option (List ae × Unit) :=
 match yV (s.2.1, s.1.2.2.2.1, ()) with
 | none => none
 | some r0 =>
  some (r0.1, ())
def al2 (s : TY) : Option (List ae × Unit) :=
 match acS (s.1, s.2.1, ()) with
 | none => none
 | some r0 =>
  bif (decide (0 <= r0.1) && decide (r0.1 <= r0.2.1) && decide (r0.2.1 <= (List.length s.1 : Int)) && decide (r0.2.1 = r0.2.1)) then
   let t1 := (List.drop (Int.toNat r0.1) (List.take (Int.toNat r0.2.1) s.1))
   some (t1, ())
  else none
def ajs (s : Ti) : Option (Ti ⊕ ((List ae × Unit) ⊕ Unit)) :=
 bif decide (s.2.2.2.1 < s.2.2.1) then
  bif decide (0 <= s.2.2.2.1) && decide (s.2.2.2.1 < (List.length s.2.2.2.2.1 : Int)) then
   let t0 := (List.getD s.2.2.2.2.1 (Int.toNat s.2.2.2.1) ([], ([], (0, ()))))
   match yR (t0.1, s.1, s.2.1, ()) with
   | none => none
   | some r1 =>
    bif decide (0 <= s.2.2.2.1) && decide (s.2.2.2.1 < (List.length s.2.2.2.2.1 : Int)) then
     let t2 := (List.set s.2.2.2.2.1 (Int.toNat s.2.2.2.1) (r1.1, (List.getD s.2.2.2.2.1 (Int.toNat s.2.2.2.1) ([], ([], (0, ())))).2))
     let t3 := IntKind.i64.wrap (s.2.2.2.1 + 1)
     some (.inl (s.1, s.2.1, s.2.2.1, t3, t2, ()))
    else none
  else none
 else
  some (.inr (.inl (s.2.2.2.2.1, ())))
def aju := aQ ajs
def apC (s : List ae × List UInt8 × List UInt8 × Unit) : Option (List ae × Unit) :=
 match eG (s.2.1, ()) with
 | none => none
 | some r0 =>
  match al2 (s.1, r0.1, ()) with
  | none => none
  | some r1 =>
   match cG (r1.1, ()) with
   | none => none
   | some r2 =>
    match aju (s.2.1, s.2.2.1, ((List.length r2.1) : Int), 0, r2.1, ()) with
    | none => none
    | some (.inl z3) =>
     some (z3.1, ())
    | some (.inr z3) =>
     none
def zP (s : TH) : Option (TH ⊕ (TH ⊕ Unit)) :=
 bif decide ((0 : Int) < (List.length s.2.1 : Int)) then
  let t0 := (List.getD s.2.1 0 ([], ([], (0, ()))))
  bif (decide ((List.length s.2.2.1 + List.length ([t0] : List ae)) * 40 <= am)) then
   let t1 : List ae := (s.2.2.1 ++ ([t0] : List ae))
   bif (decide ((1 : Int) <= (List.length s.2.1 : Int)) && decide (((List.length s.2.1 : Int) : Int) <= (List.length s.2.1 : Int))) then
    let t2 := (List.drop (Int.toNat 1) (List.take (Int.toNat (List.length s.2.1 : Int)) s.2.1))
    some (.inl (s.1, t2, t1, ()))
   else none
  else none
 else none
def zQ (s : List ae × List ae × Bool × List ae × Unit) : Option (TH ⊕ (TH ⊕ Unit)) :=
 bif s.2.2.1 then
  some (.inr (.inl (s.1, s.2.1, s.2.2.2.1, ())))
 else
  bif decide ((0 : Int) < (List.length s.1 : Int)) then
   let t0 := (List.getD s.1 0 ([], ([], (0, ()))))
   bif decide ((0 : Int) < (List.length s.2.1 : Int)) then
    let t1 := (List.getD s.2.1 0 ([], ([], (0, ()))))
    bif (Op.bytesLess t0.1 t1.1) then
     bif decide ((0 : Int) < (List.length s.1 : Int)) then
      let t2 := (List.getD s.1 0 ([], ([], (0, ()))))
      bif (decide ((List.length s.2.2.2.1 + List.length ([t2] : List ae)) * 40 <= am)) then
       let t3 : List ae := (s.2.2.2.1 ++ ([t2] : List ae))
       bif (decide ((1 : Int) <= (List.length s.1 : Int)) && decide (((List.length s.1 : Int) : Int) <= (List.length s.1 : Int))) then
        let t4 := (List.drop (Int.toNat 1) (List.take (Int.toNat (List.length s.1 : Int)) s.1))
        some (.inl (t4, s.2.1, t3, ()))
       else none
      else none
     else none
    else
     bif decide ((0 : Int) < (List.length s.1 : Int)) then
      let t2 := (List.getD s.1 0 ([], ([], (0, ()))))
      bif decide ((0 : Int) < (List.length s.2.1 : Int)) then
       let t3 := (List.getD s.2.1 0 ([], ([], (0, ()))))
       bif decide ((t2.1 : List UInt8) = t3.1) then
        bif (decide ((1 : Int) <= (List.length s.1 : Int)) && decide (((List.length s.1 : Int) : Int) <= (List.length s.1 : Int))) then
         let t4 := (List.drop (Int.toNat 1) (List.take (Int.toNat (List.length s.1 : Int)) s.1))
         zP (t4, s.2.1, s.2.2.2.1, ())
        else none
       else
        zP (s.1, s.2.1, s.2.2.2.1, ())
      else none
     else none
   else none
  else none

def afD (s : TH) : Option (TH ⊕ (TH ⊕ Unit)) :=
 let t0 := (decide ((((List.length s.1) : Int) : Int) = 0))
 bif !t0 then
  let t1 := (decide ((((List.length s.2.1) : Int) : Int) = 0))
  zQ (s.1, s.2.1, t1, s.2.2.1, ())
 else
  zQ (s.1, s.2.1, true, s.2.2.1, ())
def afF := aQ afD
def al3 (s : TU) : Option (List ae × Unit) :=
 let t0 := (IntKind.i64.wrap (((List.length s.1) : Int) + ((List.length s.2.1) : Int)))
 bif (decide (0 <= 0) && decide ((0 : Int) <= t0) && decide (t0 * 40 <= (am : Int))) then
  match afF (s.1, s.2.1, (List.replicate 0 (([] : List UInt8), (([] : List UInt8), ((0 : Int), ())))), ()) with
  | none => none
  | some (.inl z1) =>
   bif decide ((List.length z1.2.2.1 + List.length z1.1) * 40 <= am) then
    bif (decide ((List.length (z1.2.2.1 ++ z1.1) + List.length z1.2.1) * 40 <= am)) then
     some (((z1.2.2.1 ++ z1.1) ++ z1.2.1), ())
    else none
   else none
  | some (.inr z1) =>
   none
 else none
def wo (s : TZ) : Option (List ae × Unit) :=
 match eG (s.1.2.2.2.2.2.1, ()) with
 | none => none
 | some r0 =>
  match yV (s.2.1, r0.1, ()) with
  | none => none
  | some r1 =>
   match apC (s.2.1, s.1.2.2.2.2.1, s.1.2.2.2.2.2.1, ()) with
   | none => none
   | some r2 =>
    match al3 (r1.1, r2.1, ()) with
    | none => none
    | some r3 =>
     some (r3.1, ())
def aeW (s : TZ) : Option (List ae × Unit) :=
 match wo (s.1, s.2.1, ()) with
 | none => none
 | some r0 =>
  match eG (s.1.2.2.2.2.1, ()) with
  | none => none
  | some r1 =>
   match yV (r0.1, r1.1, ()) with
   | none => none
   | some r2 =>
    some (r2.1, ())
def yx (s : Int × Int × ag × List ae × Unit) : Option ((Int × Int × ag × List ae × Unit) ⊕ ((List ae × Unit) ⊕ Unit)) :=
 bif decide (s.2.1 < s.1) then
  bif decide (0 <= s.2.1) && decide (s.2.1 < (List.length s.2.2.2.1 : Int)) then
   let t0 := (List.getD s.2.2.2.1 (Int.toNat s.2.1) ([], ([], (0, ()))))
   match uh (s.2.2.1.2.2.2.1, t0.1, ()) with
   | none => none
   | some r1 =>
    bif r1.1 then
     bif decide (0 <= s.2.1) && decide (s.2.1 < (List.length s.2.2.2.1 : Int)) then
      let t2 := (List.set s.2.2.2.1 (Int.toNat s.2.1) ((List.getD s.2.2.2.1 (Int.toNat s.2.1) ([], ([], (0, ())))).1, ((List.getD s.2.2.2.1 (Int.toNat s.2.1) ([], ([], (0, ())))).2.1, (s.2.2.1.2.2.2.2.2.2.1, (List.getD s.2.2.2.1 (Int.toNat s.2.1) ([], ([], (0, ())))).2.2.2))))
      some (.inl (s.1, (IntKind.i64.wrap (s.2.1 + 1)), s.2.2.1, t2, ()))
     else none
    else
     some (.inl (s.1, (IntKind.i64.wrap (s.2.1 + 1)), s.2.2.1, s.2.2.2.1, ()))
  else none
 else
  some (.inr (.inl (s.2.2.2.1, ())))
def y5 := aQ yx
def ad8 (s : TZ) : Option (List ae × Unit) :=
 match cG (s.2.1, ()) with
 | none => none
 | some r0 =>
  match y5 (((List.length r0.1) : Int), 0, s.1, r0.1, ()) with
  | none => none
  | some (.inl z1) =>
   some (z1.1, ())
  | some (.inr z1) =>
   none
def ak1 (s : List ae × ag × Unit) : Option (List ae × Unit) :=
 bif decide (s.2.1.1 = 1) then
  match ahk (s.2.1, s.1, ()) with
  | none => none
  | some r0 =>
   some (r0.1, ())
 else
  bif decide (s.2.1.1 = 2) then
   match ahj (s.2.1, s.1, ()) with
   | none => none
   | some r0 =>
    some (r0.1, ())
  else
   bif decide (s.2.1.1 = 3) then
    match aeU (s.2.1, s.1, ()) with
    | none => none
    | some r0 =>
     some (r0.1, ())
   else
    bif decide (s.2.1.1 = 4) then
     match aeW (s.2.1, s.1, ()) with
     | none => none
     | some r0 =>
      some (r0.1, ())
    else
     bif decide (s.2.1.1 = 5) then
      match wo (s.2.1, s.1, ()) with
      | none => none
      | some r0 =>
       some (r0.1, ())
     else
      bif decide (s.2.1.1 = 6) then
       match ad8 (s.2.1, s.1, ()) with
       | none => none
       | some r0 =>
        some (r0.1, ())
      else
       some (s.1, ())
def aj1 (s : List aq × List Int × List aq × Unit) : Option ((List aq × List Int × List aq × Unit) ⊕ ((List aq × List aq × Unit) ⊕ Unit)) :=
 let t0 := (decide ((((List.length s.2.1) : Int) : Int) > 0))
 bif t0 then
  let t1 := (IntKind.i64.wrap (((List.length s.2.1) : Int) - 1))
  bif decide (0 <= t1) && decide (t1 < (List.length s.2.1 : Int)) then
   let t2 := (List.getD s.2.1 (Int.toNat t1) 0)
   let t3 := (IntKind.i64.wrap (((List.length s.2.1) : Int) - 1))
   bif decide ((0 : Int) <= t3) && decide (t3 <= (List.length s.2.1 : Int)) then
    bif decide (0 <= t2) && decide (t2 < (List.length s.2.2.1 : Int)) then
     let t4 := (List.getD s.2.2.1 (Int.toNat t2) (false, (false, (0, (([], ([], ([], ([], ([], ()))))), ())))))
     let t5 := IntKind.i64.wrap (t4.2.2.1 - 1)
     let t6 := (List.set s.2.2.1 (Int.toNat t2) ((List.getD s.2.2.1 (Int.toNat t2) (false, (false, (0, (([], ([], ([], ([], ([], ()))))), ()))))).1, ((List.getD s.2.2.1 (Int.toNat t2) (false, (false, (0, (([], ([], ([], ([], ([], ()))))), ()))))).2.1, (t5, (List.getD s.2.2.1 (Int.toNat t2) (false, (false, (0, (([], ([], ([], ([], ([], ()))))), ()))))).2.2.2))))
     let t7 := (List.getD t6 (Int.toNat t2) (false, (false, (0, (([], ([], ([], ([], ([], ()))))), ())))))
     bif decide (t7.2.2.1 > 0) then
      some (.inl (s.1, (List.take (Int.toNat t3) s.2.1), t6, ()))
     else
      let t8 := (List.getD t6 (Int.toNat t2) (false, (false, (0, (([], ([], ([], ([], ([], ()))))), ())))))
      bif (decide ((List.length (List.take (Int.toNat t3) s.2.1) + List.length t8.2.2.2.1.2.2.1) * 8 <= am)) then
       let t9 := (List.take (Int.toNat t3) s.2.1 ++ t8.2.2.2.1.2.2.1)
       let t10 := (List.set t6 (Int.toNat t2) (false, (false, (0, (([], ([], ([], ([], ([], ()))))), ())))))
       some (.inl (s.1, t9, t10, ()))
      else none
    else none
   else none
  else none
 else
  some (.inr (.inl (s.1, s.2.2.1, ())))
def aj3 := aQ aj1
def ak6 (s : aO) : Option aO :=
 match xp (s.1, s.2.1, ()) with
 | none => none
 | some r0 =>
  bif !r0.1 then
   some (s.1, 110, ())
  else
   match aiq (s.1, ()) with
   | none => none
   | some r1 =>
    match aj3 ([], ([s.2.1] : List Int), r1.1, ()) with
    | none => none
    | some (.inl z2) =>
     some ((z2.2.1, ()), 0, ())
    | some (.inr z2) =>
     none
def pw (s : List ag × Unit) : Option (List ag × Unit) :=
 bif (decide (0 <= 0) && decide ((0 : Int) <= ((List.length s.1) : Int)) && decide ((((List.length s.1) : Int) : Int) <= (List.length s.1 : Int)) && decide ((((List.length s.1) : Int) : Int) = ((List.length s.1) : Int))) then
  let t0 := (List.drop 0 (List.take (Int.toNat ((List.length s.1) : Int)) s.1))
  some (t0, ())
 else none
def aox (s : az × ag × Unit) : Option (az × Int × Unit) :=
 match o6 (s.2.1, ()) with
 | none => none
 | some r0 =>
  bif !r0.1 then
   some (s.1, 50, ())
  else
   match oc (s.1.1, s.1.2.1, ()) with
   | none => none
   | some r1 =>
    bif (!decide (r1.2.1 = 0)) then
     some (s.1, r1.2.1, ())
    else
     match tb (r1.1, ()) with
     | none => none
     | some r2 =>
      bif r2.1 then
       match ak1 (r1.1.1, s.2.1, ()) with
       | none => none
       | some r3 =>
        match afe (s.1.1, (r3.1, (r1.1.2.1, (r1.1.2.2.1, (r1.1.2.2.2.1, (r1.1.2.2.2.2.1, ()))))), ()) with
        | none => none
        | some r4 =>
         bif (!decide (r4.2.2.1 = 0)) then
          some (s.1, r4.2.2.1, ())
         else
          match ak6 (r4.1, s.1.2.1, ()) with
          | none => none
          | some r5 =>
           bif (!decide (r5.2.1 = 0)) then
            some (s.1, r5.2.1, ())
           else
            some ((r5.1, (r4.2.1, (s.1.2.2.1, ()))), 0, ())
      else
       match pw (r1.1.2.2.2.2.1, ()) with
       | none => none
       | some r3 =>
        bif (decide (0 < List.length ([s.2.1] : List ag)) && decide ((List.length r3.1 + List.length ([s.2.1] : List ag)) * 112 <= am)) then
         let t4 : List ag := (r3.1 ++ ([s.2.1] : List ag))
         match afe (s.1.1, (r1.1.1, (r1.1.2.1, (r1.1.2.2.1, (r1.1.2.2.2.1, (t4, ()))))), ()) with
         | none => none
         | some r5 =>
          bif (!decide (r5.2.2.1 = 0)) then
           some (s.1, r5.2.2.1, ())
          else
           match ak6 (r5.1, s.1.2.1, ()) with
           | none => none
           | some r6 =>
            bif (!decide (r6.2.1 = 0)) then
             some (s.1, r6.2.1, ())
            else
             some ((r6.1, (r5.2.1, (s.1.2.2.1, ()))), 0, ())
        else none
def qs (s : Int × az × api_Node × Unit) : Option ((Int × az × api_Node × Unit) ⊕ ((Int × Unit) ⊕ Unit)) :=
 match tb (s.2.2.1, ()) with
 | none => none
 | some r0 =>
  bif !r0.1 then
   bif decide ((0 : Int) < (List.length s.2.2.1.2.2.1 : Int)) then
    match oc (s.2.1.1, (List.getD s.2.2.1.2.2.1 0 0), ()) with
    | none => none
    | some r1 =>
     some (.inl ((IntKind.i64.wrap (s.1 + 1)), s.2.1, r1.1, ()))
   else none
  else
   some (.inr (.inl (s.1, ())))
def yY := aQ qs
def nH (s : az × Unit) : Option (Int × Unit) :=
 match oc (s.1.1, s.1.2.1, ()) with
 | none => none
 | some r0 =>
  match yY (1, s.1, r0.1, ()) with
  | none => none
  | some (.inl z1) =>
   some (z1.1, ())
  | some (.inr z1) =>
   none
def aeR (s : Unit) : Option (az × Unit) :=
 match sV (([], ()), (([(([97, 47, 120] : List UInt8), (([49] : List UInt8), (0, ())))] : List ae), ([], ([], ([], ([], ()))))), ()) with
 | none => none
 | some r0 =>
  match sV (r0.1.1, ([], ([], ([], ([], ([], ()))))), ()) with
  | none => none
  | some r1 =>
   match sV (r1.1.1, ([], (([([98, 47] : List UInt8)] : List (List UInt8)), (([r0.1.2.1, r1.1.2.1] : List Int), (([((0, (0, ())), ((0, (0, ())), ())), ((0, (0, ())), ((0, (0, ())), ()))] : List api_Sum), (([(4, ([], ([], (([], ([], ())), (([97, 47] : List UInt8), (([99, 47] : List UInt8), (0, ())))))))] : List ag), ()))))), ()) with
   | none => none
   | some r2 =>
    match uM (r2.1.1, r0.1.2.1, ()) with
    | none => none
    | some r3 =>
     match uM (r3.1, r1.1.2.1, ()) with
     | none => none
     | some r4 =>
      some ((r4.1, (r2.1.2.1, ((2, (2, (1, ()))), ()))), ())
end D
