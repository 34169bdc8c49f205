/- Plain functions, by program. -/
import Derived.Test.YtmmmpanpbphkdaaGreatDoorDa
set_option linter.unusedVariables false
open Go Go.X
namespace D
def sA (s : Int × aa × List aa × ah × Int × Unit) : Option (ah × Int × Int × aa × List aa × Unit) :=
 some (s.2.2.2.1, s.2.2.2.2.1, s.1, s.2.1, s.2.2.1, ())
def nd (s : List aa × Unit) : Option (List aa × Unit) := bif (decide ((List.length ([] : List aa) + List.length s.1) * 32 <= am)) then some (s.1, ()) else none
def hQ (s : TR) : Option (TR ⊕ ((Int × List aa × Unit) ⊕ (List aa × Unit))) :=
 bif decide (s.2.1 < s.1) then
  bif decide (0 <= s.2.1) && decide (s.2.1 < (List.length s.2.2.1 : Int)) then
   let t0 := (List.getD s.2.2.1 (Int.toNat s.2.1) ([], ([], ())))
   match jD (t0, ()) with
   | none => none
   | some r1 =>
    bif r1.1 then
     some (.inr (.inl (s.2.1, s.2.2.1, ())))
    else
     some (.inl (s.1, (IntKind.i64.wrap (s.2.1 + 1)), s.2.2.1, ()))
  else none
 else
  some (.inr (.inr (s.2.2.1, ())))
def ia := aQ hQ
def j6 (s : List aa × Unit) : Option (Int × List aa × Unit) :=
 match ia (((List.length s.1) : Int), 0, s.1, ()) with
 | none => none
 | some (.inl z0) =>
  some (z0.1, z0.2.1, ())
 | some (.inr z0) =>
  some ((-1 : Int), z0.1, ())
def iX (s : TR) : Option (TR ⊕ ((Int × List aa × Unit) ⊕ Unit)) :=
 let t0 := (decide (s.2.1 < ((List.length s.2.2.1) : Int)))
 bif t0 then
  bif decide (0 <= s.2.1) && decide (s.2.1 < (List.length s.2.2.1 : Int)) then
   let t1 := (List.getD s.2.2.1 (Int.toNat s.2.1) ([], ([], ())))
   match jD (t1, ()) with
   | none => none
   | some r2 =>
    bif !r2.1 then
     bif decide (0 <= s.1) && decide (s.1 < (List.length s.2.2.1 : Int)) then
      some (.inl ((IntKind.i64.wrap (s.1 + 1)), (IntKind.i64.wrap (s.2.1 + 1)), (List.set s.2.2.1 (Int.toNat s.1) t1), ()))
     else none
    else
     some (.inl (s.1, (IntKind.i64.wrap (s.2.1 + 1)), s.2.2.1, ()))
  else none
 else
  some (.inr (.inl (s.1, s.2.2.1, ())))
def iZ := aQ iX
def kr (s : List aa × Unit) : Option (List aa × Unit) :=
 match j6 (s.1, ()) with
 | none => none
 | some r0 =>
  bif decide (r0.1 = (-1 : Int)) then
   some (r0.2.1, ())
  else
   match iZ (r0.1, (IntKind.i64.wrap (r0.1 + 1)), r0.2.1, ()) with
   | none => none
   | some (.inl z1) =>
    bif (decide (0 <= z1.1) && decide (z1.1 <= (List.length z1.2.1 : Int)) && decide (((List.length z1.2.1 : Int) : Int) <= (List.length z1.2.1 : Int))) then
     let t2 := (List.take (Int.toNat z1.1) z1.2.1 ++ List.replicate ((Int.toNat (List.length z1.2.1 : Int)) - (Int.toNat z1.1)) (([] : List UInt8), (([] : List UInt8), ())) ++ List.drop ((Int.toNat z1.1) + ((Int.toNat (List.length z1.2.1 : Int)) - (Int.toNat z1.1))) z1.2.1)
     bif decide ((0 : Int) <= z1.1) && decide (z1.1 <= (List.length t2 : Int)) then
      some ((List.take (Int.toNat z1.1) t2), ())
     else none
    else none
   | some (.inr z1) =>
    none
def yi (s : dS) : Option (Int × Unit) :=
 bif (decide (0 <= (IntKind.u8.wrap s.1)) && decide (((IntKind.u8.wrap s.1) : Int) < (List.length ([0, 1, 2, 2, 3, 3, 3, 3, 4, 4, 4, 4, 4, 4, 4, 4, 5, 5, 5, 5, 5, 5, 5, 5, 5, 5, 5, 5, 5, 5, 5, 5, 6, 6, 6, 6, 6, 6, 6, 6, 6, 6, 6, 6, 6, 6, 6, 6, 6, 6, 6, 6, 6, 6, 6, 6, 6, 6, 6, 6, 6, 6, 6, 6, 7, 7, 7, 7, 7, 7, 7, 7, 7, 7, 7, 7, 7, 7, 7, 7, 7, 7, 7, 7, 7, 7, 7, 7, 7, 7, 7, 7, 7, 7, 7, 7, 7, 7, 7, 7, 7, 7, 7, 7, 7, 7, 7, 7, 7, 7, 7, 7, 7, 7, 7, 7, 7, 7, 7, 7, 7, 7, 7, 7, 7, 7, 7, 7, 8, 8, 8, 8, 8, 8, 8, 8, 8, 8, 8, 8, 8, 8, 8, 8, 8, 8, 8, 8, 8, 8, 8, 8, 8, 8, 8, 8, 8, 8, 8, 8, 8, 8, 8, 8, 8, 8, 8, 8, 8, 8, 8, 8, 8, 8, 8, 8, 8, 8, 8, 8, 8, 8, 8, 8, 8, 8, 8, 8, 8, 8, 8, 8, 8, 8, 8, 8, 8, 8, 8, 8, 8, 8, 8, 8, 8, 8, 8, 8, 8, 8, 8, 8, 8, 8, 8, 8, 8, 8, 8, 8, 8, 8, 8, 8, 8, 8, 8, 8, 8, 8, 8, 8, 8, 8, 8, 8, 8, 8, 8, 8, 8, 8, 8, 8, 8, 8, 8, 8, 8, 8, 8, 8, 8, 8, 8, 8] : List UInt8) : Int))) then
  let t0 : Int := ((List.getD ([0, 1, 2, 2, 3, 3, 3, 3, 4, 4, 4, 4, 4, 4, 4, 4, 5, 5, 5, 5, 5, 5, 5, 5, 5, 5, 5, 5, 5, 5, 5, 5, 6, 6, 6, 6, 6, 6, 6, 6, 6, 6, 6, 6, 6, 6, 6, 6, 6, 6, 6, 6, 6, 6, 6, 6, 6, 6, 6, 6, 6, 6, 6, 6, 7, 7, 7, 7, 7, 7, 7, 7, 7, 7, 7, 7, 7, 7, 7, 7, 7, 7, 7, 7, 7, 7, 7, 7, 7, 7, 7, 7, 7, 7, 7, 7, 7, 7, 7, 7, 7, 7, 7, 7, 7, 7, 7, 7, 7, 7, 7, 7, 7, 7, 7, 7, 7, 7, 7, 7, 7, 7, 7, 7, 7, 7, 7, 7, 8, 8, 8, 8, 8, 8, 8, 8, 8, 8, 8, 8, 8, 8, 8, 8, 8, 8, 8, 8, 8, 8, 8, 8, 8, 8, 8, 8, 8, 8, 8, 8, 8, 8, 8, 8, 8, 8, 8, 8, 8, 8, 8, 8, 8, 8, 8, 8, 8, 8, 8, 8, 8, 8, 8, 8, 8, 8, 8, 8, 8, 8, 8, 8, 8, 8, 8, 8, 8, 8, 8, 8, 8, 8, 8, 8, 8, 8, 8, 8, 8, 8, 8, 8, 8, 8, 8, 8, 8, 8, 8, 8, 8, 8, 8, 8, 8, 8, 8, 8, 8, 8, 8, 8, 8, 8, 8, 8, 8, 8, 8, 8, 8, 8, 8, 8, 8, 8, 8, 8, 8, 8, 8, 8, 8, 8, 8, 8] : List UInt8) (Int.toNat (IntKind.u8.wrap s.1)) 0).toNat : Int)
  let t1 := IntKind.i64.wrap (s.2.1 + (IntKind.i64.wrap t0))
  some (t1, ())
 else none
def yh (s : dS) : Option (Int × Unit) :=
 bif decide (s.1 >= 256) then
  let t0 : Int := (Int.fdiv s.1 (2 ^ (min (Int.toNat 8) IntKind.u64.bits)))
  yi (t0, (IntKind.i64.wrap (s.2.1 + 8)), ())
 else
  yi (s.1, s.2.1, ())
def yg (s : dS) : Option (Int × Unit) :=
 bif decide (s.1 >= 65536) then
  let t0 : Int := (Int.fdiv s.1 (2 ^ (min (Int.toNat 16) IntKind.u64.bits)))
  yh (t0, (IntKind.i64.wrap (s.2.1 + 16)), ())
 else
  yh (s.1, s.2.1, ())

def ad5 (s : Int × Unit) : Option (Int × Unit) :=
 let t0 := decide (s.1 >= 4294967296)
 bif t0 then
  let t1 : Int := (Int.fdiv s.1 (2 ^ (min (Int.toNat 32) IntKind.u64.bits)))
  yg (t1, 32, ())
 else
  yg (s.1, 0, ())
def aas (s : Int × Unit) : Option (Int × Unit) :=
 match ad5 (s.1, ()) with
 | none => none
 | some r0 =>
  some (r0.1, ())
def xZ (s : aa) : Option (Int × Unit) :=
 match mT (s.1, ()) with
 | none => none
 | some r0 =>
  match mT (s.2.1, ()) with
  | none => none
  | some r1 =>
   bif r0.1 then
    bif r1.1 then
     some (0, ())
    else
     some ((-1 : Int), ())
   else
    bif r1.1 then
     some (1, ())
    else
     bif (Op.bytesLess s.1 s.2.1) then
      some ((-1 : Int), ())
     else
      let t2 := (!(Op.bytesLess s.1 s.2.1 || decide ((s.1 : List UInt8) = s.2.1)))
      bif t2 then
       some (1, ())
      else
       some (0, ())
def dK (s : T5) : Option (Int × Unit) :=
 match xZ (s.1.1, s.2.1.1, ()) with
 | none => none
 | some r0 =>
  some (r0.1, ())
def gj (s : Tu) : Option (TD ⊕ (TJ ⊕ Unit)) :=
 bif s.2.2.2.2.1 then
  let t0 := IntKind.i64.wrap (s.2.2.2.1 - 1)
  let t1 := IntKind.i64.wrap (s.2.2.2.1 - 1)
  bif decide (0 <= t1) && decide (t1 < (List.length s.2.2.2.2.2.1 : Int)) then
   let t2 := (List.getD s.2.2.2.2.2.1 (Int.toNat t1) ([], ([], ())))
   bif decide (0 <= s.2.2.2.1) && decide (s.2.2.2.1 < (List.length s.2.2.2.2.2.1 : Int)) then
    let t3 := (List.getD s.2.2.2.2.2.1 (Int.toNat s.2.2.2.1) ([], ([], ())))
    bif decide (0 <= s.2.2.2.1) && decide (s.2.2.2.1 < (List.length s.2.2.2.2.2.1 : Int)) then
     let t4 := (List.set s.2.2.2.2.2.1 (Int.toNat s.2.2.2.1) t2)
     bif decide (0 <= t0) && decide (t0 < (List.length t4 : Int)) then
      let t5 := IntKind.i64.wrap (s.2.2.2.1 - 1)
      some (.inl (s.1, s.2.1, s.2.2.1, t5, (List.set t4 (Int.toNat t0) t3), ()))
     else none
    else none
   else none
  else none
 else
  some (.inr (.inl (s.1, s.2.1, s.2.2.1, s.2.2.2.2.2.1, ())))

def iG (s : TD) : Option (TD ⊕ (TJ ⊕ Unit)) :=
 bif decide (s.2.2.2.1 > s.1) then
  bif decide (0 <= s.2.2.2.1) && decide (s.2.2.2.1 < (List.length s.2.2.2.2.1 : Int)) then
   let t0 := (List.getD s.2.2.2.2.1 (Int.toNat s.2.2.2.1) ([], ([], ())))
   let t1 := IntKind.i64.wrap (s.2.2.2.1 - 1)
   bif decide (0 <= t1) && decide (t1 < (List.length s.2.2.2.2.1 : Int)) then
    let t2 := (List.getD s.2.2.2.2.1 (Int.toNat t1) ([], ([], ())))
    match dK (t0, t2, ()) with
    | none => none
    | some r3 =>
     gj (s.1, s.2.1, s.2.2.1, s.2.2.2.1, (decide (r3.1 < 0)), s.2.2.2.2.1, ())
   else none
  else none
 else
  gj (s.1, s.2.1, s.2.2.1, s.2.2.2.1, false, s.2.2.2.2.1, ())
def iI := aQ iG
def iF (s : TJ) : Option (TJ ⊕ ((List aa × Unit) ⊕ Unit)) :=
 bif decide (s.2.2.1 < s.2.1) then
  match iI (s.1, s.2.1, s.2.2.1, s.2.2.1, s.2.2.2.1, ()) with
  | none => none
  | some (.inl z0) =>
   let t1 := IntKind.i64.wrap (z0.2.2.1 + 1)
   some (.inl (z0.1, z0.2.1, t1, z0.2.2.2.1, ()))
  | some (.inr z0) =>
   none
 else
  some (.inr (.inl (s.2.2.2.1, ())))
def iH := aQ iF
def jS (s : TR) : Option (List aa × Unit) :=
 match iH (s.1, s.2.1, (IntKind.i64.wrap (s.1 + 1)), s.2.2.1, ()) with
 | none => none
 | some (.inl z0) =>
  some (z0.1, ())
 | some (.inr z0) =>
  none
def jB (s : TD) : Option (TJ ⊕ ((List aa × Unit) ⊕ (List aa × Unit))) :=
 bif (decide (0 <= (IntKind.i64.wrap (s.2.1 + s.2.2.1))) && decide (((IntKind.i64.wrap (s.2.1 + s.2.2.1)) : Int) < (List.length s.2.2.2.2.1 : Int))) then
  let t0 := (List.getD s.2.2.2.2.1 (Int.toNat (IntKind.i64.wrap (s.2.1 + s.2.2.1))) ([], ([], ())))
  bif (decide (0 <= (IntKind.i64.wrap (s.2.1 + s.2.2.2.1))) && decide (((IntKind.i64.wrap (s.2.1 + s.2.2.2.1)) : Int) < (List.length s.2.2.2.2.1 : Int))) then
   let t1 := (List.getD s.2.2.2.2.1 (Int.toNat (IntKind.i64.wrap (s.2.1 + s.2.2.2.1))) ([], ([], ())))
   match dK (t0, t1, ()) with
   | none => none
   | some r2 =>
    bif (!(decide (r2.1 < 0))) then
     some (.inr (.inr (s.2.2.2.2.1, ())))
    else
     bif (decide (0 <= (IntKind.i64.wrap (s.2.1 + s.2.2.2.1))) && decide (((IntKind.i64.wrap (s.2.1 + s.2.2.2.1)) : Int) < (List.length s.2.2.2.2.1 : Int))) then
      let t3 := (List.getD s.2.2.2.2.1 (Int.toNat (IntKind.i64.wrap (s.2.1 + s.2.2.2.1))) ([], ([], ())))
      bif (decide (0 <= (IntKind.i64.wrap (s.2.1 + s.2.2.1))) && decide (((IntKind.i64.wrap (s.2.1 + s.2.2.1)) : Int) < (List.length s.2.2.2.2.1 : Int))) then
       let t4 := (List.getD s.2.2.2.2.1 (Int.toNat (IntKind.i64.wrap (s.2.1 + s.2.2.1))) ([], ([], ())))
       bif (decide (0 <= (IntKind.i64.wrap (s.2.1 + s.2.2.1))) && decide (((IntKind.i64.wrap (s.2.1 + s.2.2.1)) : Int) < (List.length s.2.2.2.2.1 : Int))) then
        let t5 := (List.set s.2.2.2.2.1 (Int.toNat (IntKind.i64.wrap (s.2.1 + s.2.2.1))) t3)
        bif (decide (0 <= (IntKind.i64.wrap (s.2.1 + s.2.2.2.1))) && decide (((IntKind.i64.wrap (s.2.1 + s.2.2.2.1)) : Int) < (List.length t5 : Int))) then
         let t6 := (List.set t5 (Int.toNat (IntKind.i64.wrap (s.2.1 + s.2.2.2.1))) t4)
         some (.inl (s.1, s.2.1, s.2.2.2.1, t6, ()))
        else none
       else none
      else none
     else none
  else none
 else none
def jC (s : Tu) : Option (TJ ⊕ ((List aa × Unit) ⊕ (List aa × Unit))) :=
 bif s.2.2.2.2.1 then
  let t0 := IntKind.i64.wrap (s.2.2.2.1 + 1)
  jB (s.1, s.2.1, s.2.2.1, t0, s.2.2.2.2.2.1, ())
 else
  jB (s.1, s.2.1, s.2.2.1, s.2.2.2.1, s.2.2.2.2.2.1, ())

def lE (s : TJ) : Option (TJ ⊕ ((List aa × Unit) ⊕ (List aa × Unit))) :=
 let t0 := (IntKind.i64.wrap ((IntKind.i64.wrap (2 * s.2.2.1)) + 1))
 bif decide (t0 >= s.1) then
  some (.inr (.inl (s.2.2.2.1, ())))
 else
  let t1 := (decide (((IntKind.i64.wrap (t0 + 1)) : Int) < s.1))
  bif t1 then
   bif (decide (0 <= (IntKind.i64.wrap (s.2.1 + t0))) && decide (((IntKind.i64.wrap (s.2.1 + t0)) : Int) < (List.length s.2.2.2.1 : Int))) then
    let t2 := (List.getD s.2.2.2.1 (Int.toNat (IntKind.i64.wrap (s.2.1 + t0))) ([], ([], ())))
    let t3 := (IntKind.i64.wrap ((IntKind.i64.wrap (s.2.1 + t0)) + 1))
    bif decide (0 <= t3) && decide (t3 < (List.length s.2.2.2.1 : Int)) then
     let t4 := (List.getD s.2.2.2.1 (Int.toNat t3) ([], ([], ())))
     match dK (t2, t4, ()) with
     | none => none
     | some r5 =>
      jC (s.1, s.2.1, s.2.2.1, t0, (decide (r5.1 < 0)), s.2.2.2.1, ())
    else none
   else none
  else
   jC (s.1, s.2.1, s.2.2.1, t0, false, s.2.2.2.1, ())
def lG := aQ lE
def gI (s : TJ) : Option (List aa × Unit) :=
 match lG (s.2.1, s.2.2.1, s.1, s.2.2.2.1, ()) with
 | none => none
 | some (.inl z0) =>
  some (z0.1, ())
 | some (.inr z0) =>
  some (z0.1, ())
def lA (s : TD) : Option (TD ⊕ (TJ ⊕ Unit)) :=
 bif decide (s.2.2.2.1 >= 0) then
  match gI (s.2.2.2.1, s.2.2.1, s.1, s.2.2.2.2.1, ()) with
  | none => none
  | some r0 =>
   let t1 := IntKind.i64.wrap (s.2.2.2.1 - 1)
   some (.inl (s.1, s.2.1, s.2.2.1, t1, r0.1, ()))
 else
  some (.inr (.inl (s.1, s.2.1, s.2.2.1, s.2.2.2.2.1, ())))
def lC := aQ lA
def lB (s : TJ) : Option (TJ ⊕ ((List aa × Unit) ⊕ Unit)) :=
 bif decide (s.2.2.1 >= 0) then
  bif (decide (0 <= (IntKind.i64.wrap (s.1 + s.2.2.1))) && decide (((IntKind.i64.wrap (s.1 + s.2.2.1)) : Int) < (List.length s.2.2.2.1 : Int))) then
   let t0 := (List.getD s.2.2.2.1 (Int.toNat (IntKind.i64.wrap (s.1 + s.2.2.1))) ([], ([], ())))
   bif decide (0 <= s.1) && decide (s.1 < (List.length s.2.2.2.1 : Int)) then
    let t1 := (List.getD s.2.2.2.1 (Int.toNat s.1) ([], ([], ())))
    bif decide (0 <= s.1) && decide (s.1 < (List.length s.2.2.2.1 : Int)) then
     bif (decide (0 <= (IntKind.i64.wrap (s.1 + s.2.2.1))) && decide (((IntKind.i64.wrap (s.1 + s.2.2.1)) : Int) < (List.length (List.set s.2.2.2.1 (Int.toNat s.1) t0) : Int))) then
      let t2 := (List.set (List.set s.2.2.2.1 (Int.toNat s.1) t0) (Int.toNat (IntKind.i64.wrap (s.1 + s.2.2.1))) t1)
      match gI (s.2.1, s.2.2.1, s.1, t2, ()) with
      | none => none
      | some r3 =>
       some (.inl (s.1, s.2.1, (IntKind.i64.wrap (s.2.2.1 - 1)), r3.1, ()))
     else none
    else none
   else none
  else none
 else
  some (.inr (.inl (s.2.2.2.1, ())))
def lD := aQ lB
def mI (s : TR) : Option (List aa × Unit) :=
 let t0 := (IntKind.i64.wrap ((IntKind.i64.wrap (s.2.1 - s.1)) - 1))
 let t1 := IntKind.i64.wrap (Int.tdiv t0 2)
 match lC (s.1, 0, (IntKind.i64.wrap (s.2.1 - s.1)), t1, s.2.2.1, ()) with
 | none => none
 | some (.inl z2) =>
  let t3 := IntKind.i64.wrap (z2.2.2.1 - 1)
  match lD (z2.1, z2.2.1, t3, z2.2.2.2.1, ()) with
  | none => none
  | some (.inl z4) =>
   some (z4.1, ())
  | some (.inr z4) =>
   none
 | some (.inr z2) =>
  none
def eB (s : Int × Int × List aa × Int × Unit) : Option (Int × Int × List aa × Int × Unit) :=
 bif decide (0 <= s.2.1) && decide (s.2.1 < (List.length s.2.2.1 : Int)) then
  let t0 := (List.getD s.2.2.1 (Int.toNat s.2.1) ([], ([], ())))
  bif decide (0 <= s.1) && decide (s.1 < (List.length s.2.2.1 : Int)) then
   let t1 := (List.getD s.2.2.1 (Int.toNat s.1) ([], ([], ())))
   match dK (t0, t1, ()) with
   | none => none
   | some r2 =>
    bif decide (r2.1 < 0) then
     let t3 := IntKind.i64.wrap (s.2.2.2.1 + 1)
     some (s.2.1, s.1, s.2.2.1, t3, ())
    else
     some (s.1, s.2.1, s.2.2.1, s.2.2.2.1, ())
  else none
 else none
def jb (s : Int × Int × Int × List aa × Int × Unit) : Option TS :=
 match eB (s.1, s.2.1, s.2.2.2.1, s.2.2.2.2.1, ()) with
 | none => none
 | some r0 =>
  match eB (r0.2.1, s.2.2.1, r0.2.2.1, r0.2.2.2.1, ()) with
  | none => none
  | some r1 =>
   match eB (r0.1, r1.1, r1.2.2.1, r1.2.2.2.1, ()) with
   | none => none
   | some r2 =>
    some (r2.2.1, r2.2.2.1, r2.2.2.2.1, ())
def cz (s : TS) : Option TS :=
 match jb ((IntKind.i64.wrap (s.1 - 1)), s.1, (IntKind.i64.wrap (s.1 + 1)), s.2.1, s.2.2.1, ()) with
 | none => none
 | some r0 =>
  some (r0.1, r0.2.1, r0.2.2.1, ())
def j9 (s : Int × Int × Int × List aa × Int × Unit) : Option TR :=
 match jb (s.1, s.2.1, s.2.2.1, s.2.2.2.1, s.2.2.2.2.1, ()) with
 | none => none
 | some r0 =>
  bif decide (r0.2.2.1 = 0) then
   some (r0.1, 1, r0.2.1, ())
  else
   bif decide (r0.2.2.1 = 12) then
    some (r0.1, 2, r0.2.1, ())
   else
    some (r0.1, 0, r0.2.1, ())

def l9 (s : TR) : Option TR :=
 let t0 := (IntKind.i64.wrap (Int.tdiv (IntKind.i64.wrap (s.2.1 - s.1)) 4))
 let t1 := (IntKind.i64.wrap (s.1 + (IntKind.i64.wrap (t0 * 1))))
 let t2 := (IntKind.i64.wrap (Int.tdiv (IntKind.i64.wrap (s.2.1 - s.1)) 4))
 let t3 := (IntKind.i64.wrap (s.1 + (IntKind.i64.wrap (t2 * 2))))
 let t4 := (IntKind.i64.wrap (Int.tdiv (IntKind.i64.wrap (s.2.1 - s.1)) 4))
 let t5 := (IntKind.i64.wrap (s.1 + (IntKind.i64.wrap (t4 * 3))))
 let t6 := (decide (((IntKind.i64.wrap (s.2.1 - s.1)) : Int) >= 8))
 bif t6 then
  let t7 := (decide (((IntKind.i64.wrap (s.2.1 - s.1)) : Int) >= 50))
  bif t7 then
   match cz (t1, s.2.2.1, 0, ()) with
   | none => none
   | some r8 =>
    match cz (t3, r8.2.1, r8.2.2.1, ()) with
    | none => none
    | some r9 =>
     match cz (t5, r9.2.1, r9.2.2.1, ()) with
     | none => none
     | some r10 =>
      j9 (r8.1, r9.1, r10.1, r10.2.1, r10.2.2.1, ())
  else
   j9 (t1, t3, t5, s.2.2.1, 0, ())
 else
  bif decide ((0 : Int) = 0) then
   some (t3, 1, s.2.2.1, ())
  else
   let t7 := decide ((0 : Int) = 12)
   bif t7 then
    some (t3, 2, s.2.2.1, ())
   else
    some (t3, 0, s.2.2.1, ())
def jd (s : TR) : Option (TR ⊕ ((List aa × Unit) ⊕ Unit)) :=
 bif decide (s.1 < s.2.1) then
  bif decide (0 <= s.2.1) && decide (s.2.1 < (List.length s.2.2.1 : Int)) then
   let t0 := (List.getD s.2.2.1 (Int.toNat s.2.1) ([], ([], ())))
   bif decide (0 <= s.1) && decide (s.1 < (List.length s.2.2.1 : Int)) then
    let t1 := (List.getD s.2.2.1 (Int.toNat s.1) ([], ([], ())))
    bif decide (0 <= s.1) && decide (s.1 < (List.length s.2.2.1 : Int)) then
     bif (decide (0 <= s.2.1) && decide (s.2.1 < (List.length (List.set s.2.2.1 (Int.toNat s.1) t0) : Int))) then
      let t2 := (List.set (List.set s.2.2.1 (Int.toNat s.1) t0) (Int.toNat s.2.1) t1)
      some (.inl ((IntKind.i64.wrap (s.1 + 1)), (IntKind.i64.wrap (s.2.1 - 1)), t2, ()))
     else none
    else none
   else none
  else none
 else
  some (.inr (.inl (s.2.2.1, ())))
def jf := aQ jd
def kF (s : TR) : Option (List aa × Unit) :=
 match jf (s.1, (IntKind.i64.wrap (s.2.1 - 1)), s.2.2.1, ()) with
 | none => none
 | some (.inl z0) =>
  some (z0.1, ())
 | some (.inr z0) =>
  none
def eS (s : TD) : Option (TD ⊕ (TD ⊕ Unit)) :=
 bif decide (s.2.2.1 < s.2.1) then
  bif decide (0 <= s.2.2.1) && decide (s.2.2.1 < (List.length s.2.2.2.2.1 : Int)) then
   let t0 := (List.getD s.2.2.2.2.1 (Int.toNat s.2.2.1) ([], ([], ())))
   bif (decide (0 <= (IntKind.i64.wrap (s.2.2.1 - 1))) && decide (((IntKind.i64.wrap (s.2.2.1 - 1)) : Int) < (List.length s.2.2.2.2.1 : Int))) then
    let t1 := (List.getD s.2.2.2.2.1 (Int.toNat (IntKind.i64.wrap (s.2.2.1 - 1))) ([], ([], ())))
    match dK (t0, t1, ()) with
    | none => none
    | some r2 =>
     bif (!(decide (r2.1 < 0))) then
      some (.inl (s.1, s.2.1, (IntKind.i64.wrap (s.2.2.1 + 1)), s.2.2.2.1, s.2.2.2.2.1, ()))
     else
      some (.inr (.inl (s.1, s.2.1, s.2.2.1, s.2.2.2.1, s.2.2.2.2.1, ())))
   else none
  else none
 else
  some (.inr (.inl (s.1, s.2.1, s.2.2.1, s.2.2.2.1, s.2.2.2.2.1, ())))
def eX := aQ eS
def eU (s : Tv) : Option (Tv ⊕ (TD ⊕ Unit)) :=
 let t0 := decide (s.2.2.2.2.1 >= 1)
 bif t0 then
  bif decide (0 <= s.2.2.2.2.1) && decide (s.2.2.2.2.1 < (List.length s.2.2.2.2.2.1 : Int)) then
   let t1 := (List.getD s.2.2.2.2.2.1 (Int.toNat s.2.2.2.2.1) ([], ([], ())))
   let t2 := IntKind.i64.wrap (s.2.2.2.2.1 - 1)
   bif decide (0 <= t2) && decide (t2 < (List.length s.2.2.2.2.2.1 : Int)) then
    let t3 := (List.getD s.2.2.2.2.2.1 (Int.toNat t2) ([], ([], ())))
    match dK (t1, t3, ()) with
    | none => none
    | some r4 =>
     bif (!(decide (r4.1 < 0))) then
      some (.inr (.inl (s.1, s.2.1, s.2.2.1, s.2.2.2.1, s.2.2.2.2.2.1, ())))
     else
      let t5 := IntKind.i64.wrap (s.2.2.2.2.1 - 1)
      let t6 := IntKind.i64.wrap (s.2.2.2.2.1 - 1)
      bif decide (0 <= t6) && decide (t6 < (List.length s.2.2.2.2.2.1 : Int)) then
       let t7 := (List.getD s.2.2.2.2.2.1 (Int.toNat t6) ([], ([], ())))
       bif decide (0 <= s.2.2.2.2.1) && decide (s.2.2.2.2.1 < (List.length s.2.2.2.2.2.1 : Int)) then
        let t8 := (List.getD s.2.2.2.2.2.1 (Int.toNat s.2.2.2.2.1) ([], ([], ())))
        bif decide (0 <= s.2.2.2.2.1) && decide (s.2.2.2.2.1 < (List.length s.2.2.2.2.2.1 : Int)) then
         let t9 := (List.set s.2.2.2.2.2.1 (Int.toNat s.2.2.2.2.1) t7)
         bif decide (0 <= t5) && decide (t5 < (List.length t9 : Int)) then
          let t10 := IntKind.i64.wrap (s.2.2.2.2.1 - 1)
          some (.inl (s.1, s.2.1, s.2.2.1, s.2.2.2.1, t10, (List.set t9 (Int.toNat t5) t8), ()))
         else none
        else none
       else none
      else none
   else none
  else none
 else
  some (.inr (.inl (s.1, s.2.1, s.2.2.1, s.2.2.2.1, s.2.2.2.2.2.1, ())))
def eY := aQ eU
def eV (s : Tv) : Option (Tv ⊕ (TD ⊕ Unit)) :=
 bif decide (s.2.2.2.2.1 < s.2.1) then
  bif decide (0 <= s.2.2.2.2.1) && decide (s.2.2.2.2.1 < (List.length s.2.2.2.2.2.1 : Int)) then
   let t0 := (List.getD s.2.2.2.2.2.1 (Int.toNat s.2.2.2.2.1) ([], ([], ())))
   let t1 := IntKind.i64.wrap (s.2.2.2.2.1 - 1)
   bif decide (0 <= t1) && decide (t1 < (List.length s.2.2.2.2.2.1 : Int)) then
    let t2 := (List.getD s.2.2.2.2.2.1 (Int.toNat t1) ([], ([], ())))
    match dK (t0, t2, ()) with
    | none => none
    | some r3 =>
     bif (!(decide (r3.1 < 0))) then
      some (.inr (.inl (s.1, s.2.1, s.2.2.1, s.2.2.2.1, s.2.2.2.2.2.1, ())))
     else
      let t4 := IntKind.i64.wrap (s.2.2.2.2.1 - 1)
      let t5 := IntKind.i64.wrap (s.2.2.2.2.1 - 1)
      bif decide (0 <= t5) && decide (t5 < (List.length s.2.2.2.2.2.1 : Int)) then
       let t6 := (List.getD s.2.2.2.2.2.1 (Int.toNat t5) ([], ([], ())))
       bif decide (0 <= s.2.2.2.2.1) && decide (s.2.2.2.2.1 < (List.length s.2.2.2.2.2.1 : Int)) then
        let t7 := (List.getD s.2.2.2.2.2.1 (Int.toNat s.2.2.2.2.1) ([], ([], ())))
        bif decide (0 <= s.2.2.2.2.1) && decide (s.2.2.2.2.1 < (List.length s.2.2.2.2.2.1 : Int)) then
         let t8 := (List.set s.2.2.2.2.2.1 (Int.toNat s.2.2.2.2.1) t6)
         bif decide (0 <= t4) && decide (t4 < (List.length t8 : Int)) then
          let t9 := IntKind.i64.wrap (s.2.2.2.2.1 + 1)
          some (.inl (s.1, s.2.1, s.2.2.1, s.2.2.2.1, t9, (List.set t8 (Int.toNat t4) t7), ()))
         else none
        else none
       else none
      else none
   else none
  else none
 else
  some (.inr (.inl (s.1, s.2.1, s.2.2.1, s.2.2.2.1, s.2.2.2.2.2.1, ())))
def eZ := aQ eV
def dO (s : TD) : Option (TD ⊕ ((Bool × List aa × Unit) ⊕ (List aa × Unit))) :=
 let t0 := (decide (((IntKind.i64.wrap (s.2.1 - s.2.2.1)) : Int) >= 2))
 bif t0 then
  match eZ (s.1, s.2.1, s.2.2.1, s.2.2.2.1, (IntKind.i64.wrap (s.2.2.1 + 1)), s.2.2.2.2.1, ()) with
  | none => none
  | some (.inl z1) =>
   let t2 := IntKind.i64.wrap (z1.2.2.2.1 + 1)
   some (.inl (z1.1, z1.2.1, z1.2.2.1, t2, z1.2.2.2.2.1, ()))
  | some (.inr z1) =>
   none
 else
  let t1 := IntKind.i64.wrap (s.2.2.2.1 + 1)
  some (.inl (s.1, s.2.1, s.2.2.1, t1, s.2.2.2.2.1, ()))

def eR (s : TD) : Option (TD ⊕ ((Bool × List aa × Unit) ⊕ (List aa × Unit))) :=
 bif decide (s.2.2.2.1 < 5) then
  match eX (s.1, s.2.1, s.2.2.1, s.2.2.2.1, s.2.2.2.2.1, ()) with
  | none => none
  | some (.inl z0) =>
   bif decide (z0.2.2.1 = z0.2.1) then
    some (.inr (.inl (true, z0.2.2.2.2.1, ())))
   else
    let t1 := (decide (((IntKind.i64.wrap (z0.2.1 - z0.1)) : Int) < 50))
    bif t1 then
     some (.inr (.inl (false, z0.2.2.2.2.1, ())))
    else
     let t2 := IntKind.i64.wrap (z0.2.2.1 - 1)
     let t3 := IntKind.i64.wrap (z0.2.2.1 - 1)
     bif decide (0 <= t3) && decide (t3 < (List.length z0.2.2.2.2.1 : Int)) then
      let t4 := (List.getD z0.2.2.2.2.1 (Int.toNat t3) ([], ([], ())))
      bif decide (0 <= z0.2.2.1) && decide (z0.2.2.1 < (List.length z0.2.2.2.2.1 : Int)) then
       let t5 := (List.getD z0.2.2.2.2.1 (Int.toNat z0.2.2.1) ([], ([], ())))
       bif decide (0 <= z0.2.2.1) && decide (z0.2.2.1 < (List.length z0.2.2.2.2.1 : Int)) then
        let t6 := (List.set z0.2.2.2.2.1 (Int.toNat z0.2.2.1) t4)
        bif decide (0 <= t2) && decide (t2 < (List.length t6 : Int)) then
         let t7 := (decide (((IntKind.i64.wrap (z0.2.2.1 - z0.1)) : Int) >= 2))
         bif t7 then
          let t8 := IntKind.i64.wrap (z0.2.2.1 - 1)
          match eY (z0.1, z0.2.1, z0.2.2.1, z0.2.2.2.1, t8, (List.set t6 (Int.toNat t2) t5), ()) with
          | none => none
          | some (.inl z9) =>
           dO (z9.1, z9.2.1, z9.2.2.1, z9.2.2.2.1, z9.2.2.2.2.1, ())
          | some (.inr z9) =>
           none
         else
          dO (z0.1, z0.2.1, z0.2.2.1, z0.2.2.2.1, (List.set t6 (Int.toNat t2) t5), ())
        else none
       else none
      else none
     else none
  | some (.inr z0) =>
   none
 else
  some (.inr (.inr (s.2.2.2.2.1, ())))
def eW := aQ eR
def fP (s : TR) : Option (Bool × List aa × Unit) :=
 match eW (s.1, s.2.1, (IntKind.i64.wrap (s.1 + 1)), 0, s.2.2.1, ()) with
 | none => none
 | some (.inl z0) =>
  some (z0.1, z0.2.1, ())
 | some (.inr z0) =>
  some (false, z0.1, ())
def ip (s : TJ) : Option (TJ ⊕ (TJ ⊕ Unit)) :=
 bif decide (s.2.1 <= s.2.2.1) then
  bif decide (0 <= s.1) && decide (s.1 < (List.length s.2.2.2.1 : Int)) then
   let t0 := (List.getD s.2.2.2.1 (Int.toNat s.1) ([], ([], ())))
   bif decide (0 <= s.2.1) && decide (s.2.1 < (List.length s.2.2.2.1 : Int)) then
    let t1 := (List.getD s.2.2.2.1 (Int.toNat s.2.1) ([], ([], ())))
    match dK (t0, t1, ()) with
    | none => none
    | some r2 =>
     bif (!(decide (r2.1 < 0))) then
      some (.inl (s.1, (IntKind.i64.wrap (s.2.1 + 1)), s.2.2.1, s.2.2.2.1, ()))
     else
      some (.inr (.inl (s.1, s.2.1, s.2.2.1, s.2.2.2.1, ())))
   else none
  else none
 else
  some (.inr (.inl (s.1, s.2.1, s.2.2.1, s.2.2.2.1, ())))
def iu := aQ ip
def iq (s : TJ) : Option (TJ ⊕ (TJ ⊕ Unit)) :=
 bif decide (s.2.1 <= s.2.2.1) then
  bif decide (0 <= s.1) && decide (s.1 < (List.length s.2.2.2.1 : Int)) then
   let t0 := (List.getD s.2.2.2.1 (Int.toNat s.1) ([], ([], ())))
   bif decide (0 <= s.2.2.1) && decide (s.2.2.1 < (List.length s.2.2.2.1 : Int)) then
    let t1 := (List.getD s.2.2.2.1 (Int.toNat s.2.2.1) ([], ([], ())))
    match dK (t0, t1, ()) with
    | none => none
    | some r2 =>
     bif decide (r2.1 < 0) then
      some (.inl (s.1, s.2.1, (IntKind.i64.wrap (s.2.2.1 - 1)), s.2.2.2.1, ()))
     else
      some (.inr (.inl (s.1, s.2.1, s.2.2.1, s.2.2.2.1, ())))
   else none
  else none
 else
  some (.inr (.inl (s.1, s.2.1, s.2.2.1, s.2.2.2.1, ())))
def iv := aQ iq
def io (s : TJ) : Option (TJ ⊕ ((Int × List aa × Unit) ⊕ Unit)) :=
 match iu (s.1, s.2.1, s.2.2.1, s.2.2.2.1, ()) with
 | none => none
 | some (.inl z0) =>
  match iv (z0.1, z0.2.1, z0.2.2.1, z0.2.2.2.1, ()) with
  | none => none
  | some (.inl z1) =>
   bif decide (z1.2.1 > z1.2.2.1) then
    some (.inr (.inl (z1.2.1, z1.2.2.2.1, ())))
   else
    bif decide (0 <= z1.2.2.1) && decide (z1.2.2.1 < (List.length z1.2.2.2.1 : Int)) then
     let t2 := (List.getD z1.2.2.2.1 (Int.toNat z1.2.2.1) ([], ([], ())))
     bif decide (0 <= z1.2.1) && decide (z1.2.1 < (List.length z1.2.2.2.1 : Int)) then
      let t3 := (List.getD z1.2.2.2.1 (Int.toNat z1.2.1) ([], ([], ())))
      bif decide (0 <= z1.2.1) && decide (z1.2.1 < (List.length z1.2.2.2.1 : Int)) then
       let t4 := (List.set z1.2.2.2.1 (Int.toNat z1.2.1) t2)
       bif decide (0 <= z1.2.2.1) && decide (z1.2.2.1 < (List.length t4 : Int)) then
        let t5 := IntKind.i64.wrap (z1.2.2.1 - 1)
        some (.inl (z1.1, (IntKind.i64.wrap (z1.2.1 + 1)), t5, (List.set t4 (Int.toNat z1.2.2.1) t3), ()))
       else none
      else none
     else none
    else none
  | some (.inr z1) =>
   none
 | some (.inr z0) =>
  none
def ir := aQ io
def jA (s : TJ) : Option (Int × List aa × Unit) :=
 bif decide (0 <= s.2.2.1) && decide (s.2.2.1 < (List.length s.2.2.2.1 : Int)) then
  let t0 := (List.getD s.2.2.2.1 (Int.toNat s.2.2.1) ([], ([], ())))
  bif decide (0 <= s.1) && decide (s.1 < (List.length s.2.2.2.1 : Int)) then
   let t1 := (List.getD s.2.2.2.1 (Int.toNat s.1) ([], ([], ())))
   bif decide (0 <= s.1) && decide (s.1 < (List.length s.2.2.2.1 : Int)) then
    bif (decide (0 <= s.2.2.1) && decide (s.2.2.1 < (List.length (List.set s.2.2.2.1 (Int.toNat s.1) t0) : Int))) then
     let t2 := (List.set (List.set s.2.2.2.1 (Int.toNat s.1) t0) (Int.toNat s.2.2.1) t1)
     match ir (s.1, (IntKind.i64.wrap (s.1 + 1)), (IntKind.i64.wrap (s.2.1 - 1)), t2, ()) with
     | none => none
     | some (.inl z3) =>
      some (z3.1, z3.2.1, ())
     | some (.inr z3) =>
      none
    else none
   else none
  else none
 else none
def kw (s : TJ) : Option (TJ ⊕ (TJ ⊕ Unit)) :=
 bif decide (s.2.1 <= s.2.2.1) then
  bif decide (0 <= s.2.1) && decide (s.2.1 < (List.length s.2.2.2.1 : Int)) then
   let t0 := (List.getD s.2.2.2.1 (Int.toNat s.2.1) ([], ([], ())))
   bif decide (0 <= s.1) && decide (s.1 < (List.length s.2.2.2.1 : Int)) then
    let t1 := (List.getD s.2.2.2.1 (Int.toNat s.1) ([], ([], ())))
    match dK (t0, t1, ()) with
    | none => none
    | some r2 =>
     bif decide (r2.1 < 0) then
      some (.inl (s.1, (IntKind.i64.wrap (s.2.1 + 1)), s.2.2.1, s.2.2.2.1, ()))
     else
      some (.inr (.inl (s.1, s.2.1, s.2.2.1, s.2.2.2.1, ())))
   else none
  else none
 else
  some (.inr (.inl (s.1, s.2.1, s.2.2.1, s.2.2.2.1, ())))
def kA := aQ kw
def kx (s : TJ) : Option (TJ ⊕ (TJ ⊕ Unit)) :=
 bif decide (s.2.1 <= s.2.2.1) then
  bif decide (0 <= s.2.2.1) && decide (s.2.2.1 < (List.length s.2.2.2.1 : Int)) then
   let t0 := (List.getD s.2.2.2.1 (Int.toNat s.2.2.1) ([], ([], ())))
   bif decide (0 <= s.1) && decide (s.1 < (List.length s.2.2.2.1 : Int)) then
    let t1 := (List.getD s.2.2.2.1 (Int.toNat s.1) ([], ([], ())))
    match dK (t0, t1, ()) with
    | none => none
    | some r2 =>
     bif (!(decide (r2.1 < 0))) then
      some (.inl (s.1, s.2.1, (IntKind.i64.wrap (s.2.2.1 - 1)), s.2.2.2.1, ()))
     else
      some (.inr (.inl (s.1, s.2.1, s.2.2.1, s.2.2.2.1, ())))
   else none
  else none
 else
  some (.inr (.inl (s.1, s.2.1, s.2.2.1, s.2.2.2.1, ())))
def kB := aQ kx
def kz (s : TJ) : Option (TJ ⊕ (TJ ⊕ Unit)) :=
 bif decide (s.2.1 <= s.2.2.1) then
  bif decide (0 <= s.2.1) && decide (s.2.1 < (List.length s.2.2.2.1 : Int)) then
   let t0 := (List.getD s.2.2.2.1 (Int.toNat s.2.1) ([], ([], ())))
   bif decide (0 <= s.1) && decide (s.1 < (List.length s.2.2.2.1 : Int)) then
    let t1 := (List.getD s.2.2.2.1 (Int.toNat s.1) ([], ([], ())))
    match dK (t0, t1, ()) with
    | none => none
    | some r2 =>
     bif decide (r2.1 < 0) then
      some (.inl (s.1, (IntKind.i64.wrap (s.2.1 + 1)), s.2.2.1, s.2.2.2.1, ()))
     else
      some (.inr (.inl (s.1, s.2.1, s.2.2.1, s.2.2.2.1, ())))
   else none
  else none
 else
  some (.inr (.inl (s.1, s.2.1, s.2.2.1, s.2.2.2.1, ())))
def kD := aQ kz
def k9 (s : TJ) : Option (TJ ⊕ (TJ ⊕ Unit)) :=
 bif decide (s.2.1 <= s.2.2.1) then
  bif decide (0 <= s.2.2.1) && decide (s.2.2.1 < (List.length s.2.2.2.1 : Int)) then
   let t0 := (List.getD s.2.2.2.1 (Int.toNat s.2.2.1) ([], ([], ())))
   bif decide (0 <= s.1) && decide (s.1 < (List.length s.2.2.2.1 : Int)) then
    let t1 := (List.getD s.2.2.2.1 (Int.toNat s.1) ([], ([], ())))
    match dK (t0, t1, ()) with
    | none => none
    | some r2 =>
     bif (!(decide (r2.1 < 0))) then
      some (.inl (s.1, s.2.1, (IntKind.i64.wrap (s.2.2.1 - 1)), s.2.2.2.1, ()))
     else
      some (.inr (.inl (s.1, s.2.1, s.2.2.1, s.2.2.2.1, ())))
   else none
  else none
 else
  some (.inr (.inl (s.1, s.2.1, s.2.2.1, s.2.2.2.1, ())))
def kE := aQ k9
def ky (s : TJ) : Option (TJ ⊕ (TR ⊕ Unit)) :=
 match kD (s.1, s.2.1, s.2.2.1, s.2.2.2.1, ()) with
 | none => none
 | some (.inl z0) =>
  match kE (z0.1, z0.2.1, z0.2.2.1, z0.2.2.2.1, ()) with
  | none => none
  | some (.inl z1) =>
   bif decide (z1.2.1 > z1.2.2.1) then
    some (.inr (.inl (z1.1, z1.2.2.1, z1.2.2.2.1, ())))
   else
    bif decide (0 <= z1.2.2.1) && decide (z1.2.2.1 < (List.length z1.2.2.2.1 : Int)) then
     let t2 := (List.getD z1.2.2.2.1 (Int.toNat z1.2.2.1) ([], ([], ())))
     bif decide (0 <= z1.2.1) && decide (z1.2.1 < (List.length z1.2.2.2.1 : Int)) then
      let t3 := (List.getD z1.2.2.2.1 (Int.toNat z1.2.1) ([], ([], ())))
      bif decide (0 <= z1.2.1) && decide (z1.2.1 < (List.length z1.2.2.2.1 : Int)) then
       let t4 := (List.set z1.2.2.2.1 (Int.toNat z1.2.1) t2)
       bif decide (0 <= z1.2.2.1) && decide (z1.2.2.1 < (List.length t4 : Int)) then
        let t5 := IntKind.i64.wrap (z1.2.2.1 - 1)
        some (.inl (z1.1, (IntKind.i64.wrap (z1.2.1 + 1)), t5, (List.set t4 (Int.toNat z1.2.2.1) t3), ()))
       else none
      else none
     else none
    else none
  | some (.inr z1) =>
   none
 | some (.inr z0) =>
  none
def kC := aQ ky
def mn (s : TJ) : Option (Int × Bool × List aa × Unit) :=
 bif decide (0 <= s.2.2.1) && decide (s.2.2.1 < (List.length s.2.2.2.1 : Int)) then
  let t0 := (List.getD s.2.2.2.1 (Int.toNat s.2.2.1) ([], ([], ())))
  bif decide (0 <= s.1) && decide (s.1 < (List.length s.2.2.2.1 : Int)) then
   let t1 := (List.getD s.2.2.2.1 (Int.toNat s.1) ([], ([], ())))
   bif decide (0 <= s.1) && decide (s.1 < (List.length s.2.2.2.1 : Int)) then
    bif (decide (0 <= s.2.2.1) && decide (s.2.2.1 < (List.length (List.set s.2.2.2.1 (Int.toNat s.1) t0) : Int))) then
     let t2 := (List.set (List.set s.2.2.2.1 (Int.toNat s.1) t0) (Int.toNat s.2.2.1) t1)
     match kA (s.1, (IntKind.i64.wrap (s.1 + 1)), (IntKind.i64.wrap (s.2.1 - 1)), t2, ()) with
     | none => none
     | some (.inl z3) =>
      match kB (z3.1, z3.2.1, z3.2.2.1, z3.2.2.2.1, ()) with
      | none => none
      | some (.inl z4) =>
       bif decide (z4.2.1 > z4.2.2.1) then
        bif decide (0 <= z4.1) && decide (z4.1 < (List.length z4.2.2.2.1 : Int)) then
         let t5 := (List.getD z4.2.2.2.1 (Int.toNat z4.1) ([], ([], ())))
         bif decide (0 <= z4.2.2.1) && decide (z4.2.2.1 < (List.length z4.2.2.2.1 : Int)) then
          let t6 := (List.getD z4.2.2.2.1 (Int.toNat z4.2.2.1) ([], ([], ())))
          bif decide (0 <= z4.2.2.1) && decide (z4.2.2.1 < (List.length z4.2.2.2.1 : Int)) then
           let t7 := (List.set z4.2.2.2.1 (Int.toNat z4.2.2.1) t5)
           bif decide (0 <= z4.1) && decide (z4.1 < (List.length t7 : Int)) then
            some (z4.2.2.1, true, (List.set t7 (Int.toNat z4.1) t6), ())
           else none
          else none
         else none
        else none
       else
        bif decide (0 <= z4.2.2.1) && decide (z4.2.2.1 < (List.length z4.2.2.2.1 : Int)) then
         let t5 := (List.getD z4.2.2.2.1 (Int.toNat z4.2.2.1) ([], ([], ())))
         bif decide (0 <= z4.2.1) && decide (z4.2.1 < (List.length z4.2.2.2.1 : Int)) then
          let t6 := (List.getD z4.2.2.2.1 (Int.toNat z4.2.1) ([], ([], ())))
          bif decide (0 <= z4.2.1) && decide (z4.2.1 < (List.length z4.2.2.2.1 : Int)) then
           let t7 := (List.set z4.2.2.2.1 (Int.toNat z4.2.1) t5)
           bif decide (0 <= z4.2.2.1) && decide (z4.2.2.1 < (List.length t7 : Int)) then
            let t8 := IntKind.i64.wrap (z4.2.2.1 - 1)
            match kC (z4.1, (IntKind.i64.wrap (z4.2.1 + 1)), t8, (List.set t7 (Int.toNat z4.2.2.1) t6), ()) with
            | none => none
            | some (.inl z9) =>
             bif decide (0 <= z9.1) && decide (z9.1 < (List.length z9.2.2.1 : Int)) then
              let t10 := (List.getD z9.2.2.1 (Int.toNat z9.1) ([], ([], ())))
              bif decide (0 <= z9.2.1) && decide (z9.2.1 < (List.length z9.2.2.1 : Int)) then
               let t11 := (List.getD z9.2.2.1 (Int.toNat z9.2.1) ([], ([], ())))
               bif decide (0 <= z9.2.1) && decide (z9.2.1 < (List.length z9.2.2.1 : Int)) then
                let t12 := (List.set z9.2.2.1 (Int.toNat z9.2.1) t10)
                bif decide (0 <= z9.1) && decide (z9.1 < (List.length t12 : Int)) then
                 some (z9.2.1, false, (List.set t12 (Int.toNat z9.1) t11), ())
                else none
               else none
              else none
             else none
            | some (.inr z9) =>
             none
           else none
          else none
         else none
        else none
      | some (.inr z4) =>
       none
     | some (.inr z3) =>
      none
    else none
   else none
  else none
 else none
def ur (s : Int × Unit) : Option (Int × Unit) :=
 match aas ((IntKind.u64.wrap s.1), ()) with
 | none => none
 | some r0 =>
  bif decide (r0.1 < 0) then
   none
  else
   let t1 := (IntKind.u64.wrap (1 * 2 ^ (min (Int.toNat r0.1) IntKind.u64.bits)))
   some (t1, ())
def vL (s : Int × Unit) : Option dS :=
 let t0 := (IntKind.u64.wrap (s.1 * 2 ^ (min (Int.toNat 13) IntKind.u64.bits)))
 let t1 := (IntKind.u64.wrap ((BitVec.ofInt IntKind.u64.bits s.1 ^^^ BitVec.ofInt IntKind.u64.bits t0).toNat : Int))
 let t2 : Int := (Int.fdiv t1 (2 ^ (min (Int.toNat 7) IntKind.u64.bits)))
 let t3 := (IntKind.u64.wrap ((BitVec.ofInt IntKind.u64.bits t1 ^^^ BitVec.ofInt IntKind.u64.bits t2).toNat : Int))
 let t4 := (IntKind.u64.wrap (t3 * 2 ^ (min (Int.toNat 17) IntKind.u64.bits)))
 let t5 := (IntKind.u64.wrap ((BitVec.ofInt IntKind.u64.bits t3 ^^^ BitVec.ofInt IntKind.u64.bits t4).toNat : Int))
 some (t5, t5, ())
def gi (s : Int × Int × Int × Int × Int × List aa × Int × Unit) : Option (Tw ⊕ ((List aa × Unit) ⊕ Unit)) :=
 bif (decide (0 <= (IntKind.i64.wrap (s.1 + s.2.2.2.2.1))) && decide (((IntKind.i64.wrap (s.1 + s.2.2.2.2.1)) : Int) < (List.length s.2.2.2.2.2.1 : Int))) then
  let t0 := (List.getD s.2.2.2.2.2.1 (Int.toNat (IntKind.i64.wrap (s.1 + s.2.2.2.2.1))) ([], ([], ())))
  bif decide (0 <= s.2.2.2.1) && decide (s.2.2.2.1 < (List.length s.2.2.2.2.2.1 : Int)) then
   let t1 := (List.getD s.2.2.2.2.2.1 (Int.toNat s.2.2.2.1) ([], ([], ())))
   bif decide (0 <= s.2.2.2.1) && decide (s.2.2.2.1 < (List.length s.2.2.2.2.2.1 : Int)) then
    let t2 := (List.set s.2.2.2.2.2.1 (Int.toNat s.2.2.2.1) t0)
    bif (decide (0 <= (IntKind.i64.wrap (s.1 + s.2.2.2.2.1))) && decide (((IntKind.i64.wrap (s.1 + s.2.2.2.2.1)) : Int) < (List.length t2 : Int))) then
     let t3 := (List.set t2 (Int.toNat (IntKind.i64.wrap (s.1 + s.2.2.2.2.1))) t1)
     let t4 := IntKind.i64.wrap (s.2.2.2.1 + 1)
     some (.inl (s.1, s.2.1, s.2.2.1, t4, t3, s.2.2.2.2.2.2.1, ()))
    else none
   else none
  else none
 else none

def iC (s : Tw) : Option (Tw ⊕ ((List aa × Unit) ⊕ Unit)) :=
 let t0 := IntKind.i64.wrap (Int.tdiv s.2.1 4)
 let t1 := (IntKind.i64.wrap (s.1 + (IntKind.i64.wrap (t0 * 2))))
 let t2 := (decide (s.2.2.2.1 <= (IntKind.i64.wrap (t1 + 1))))
 bif t2 then
  match vL (s.2.2.2.2.2.1, ()) with
  | none => none
  | some r3 =>
   let t4 := (IntKind.u64.wrap ((BitVec.ofInt IntKind.u64.bits r3.1 &&& BitVec.ofInt IntKind.u64.bits (IntKind.u64.wrap (s.2.2.1 - 1))).toNat : Int))
   let t5 := (decide (((IntKind.i64.wrap t4) : Int) >= s.2.1))
   bif t5 then
    let t6 := IntKind.i64.wrap ((IntKind.i64.wrap t4) - s.2.1)
    gi (s.1, s.2.1, s.2.2.1, s.2.2.2.1, t6, s.2.2.2.2.1, r3.2.1, ())
   else
    gi (s.1, s.2.1, s.2.2.1, s.2.2.2.1, (IntKind.i64.wrap t4), s.2.2.2.2.1, r3.2.1, ())
 else
  some (.inr (.inl (s.2.2.2.2.1, ())))
def iE := aQ iC
def jR (s : TR) : Option (List aa × Unit) :=
 let t0 := (decide (((IntKind.i64.wrap (s.2.1 - s.1)) : Int) >= 8))
 bif t0 then
  let t1 := (IntKind.u64.wrap (IntKind.i64.wrap (s.2.1 - s.1)))
  match ur ((IntKind.i64.wrap (s.2.1 - s.1)), ()) with
  | none => none
  | some r2 =>
   let t3 := (IntKind.i64.wrap (Int.tdiv (IntKind.i64.wrap (s.2.1 - s.1)) 4))
   let t4 := (IntKind.i64.wrap (s.1 + (IntKind.i64.wrap (t3 * 2))))
   match iE (s.1, (IntKind.i64.wrap (s.2.1 - s.1)), r2.1, (IntKind.i64.wrap (t4 - 1)), s.2.2.1, t1, ()) with
   | none => none
   | some (.inl z5) =>
    some (z5.1, ())
   | some (.inr z5) =>
    none
 else
  some (s.2.2.1, ())
def aR (slices_pdqsortCmpFunc_api_Span_r : TJ -> Option (List aa × Unit)) (s : RY) : Option (R9 ⊕ (List aa × Unit)) :=
 bif s.2.2.2.2.2.2.2.1 then
  match fP (s.1, s.2.1, s.2.2.2.2.2.2.2.2.1, ()) with
  | none => none
  | some r0 =>
   bif r0.1 then
    some (.inr (r0.2.1, ()))
   else
    some (.inl (s.1, s.2.1, s.2.2.1, s.2.2.2.1, s.2.2.2.2.1, s.2.2.2.2.2.1, s.2.2.2.2.2.2.1, r0.2.1, ()))
 else
  some (.inl (s.1, s.2.1, s.2.2.1, s.2.2.2.1, s.2.2.2.2.1, s.2.2.2.2.2.1, s.2.2.2.2.2.2.1, s.2.2.2.2.2.2.2.2.1, ()))
def bh (slices_pdqsortCmpFunc_api_Span_r : TJ -> Option (List aa × Unit)) (s : RY) : Option (Tv ⊕ Tq) :=
 bif s.2.2.2.2.2.2.2.1 then
  match jA (s.1, s.2.1, s.2.2.2.2.2.2.1, s.2.2.2.2.2.2.2.2.1, ()) with
  | none => none
  | some r0 =>
   some (.inr (r0.1, s.2.1, s.2.2.1, s.2.2.2.1, s.2.2.2.2.1, r0.2.1, ()))
 else
  some (.inl (s.1, s.2.1, s.2.2.1, s.2.2.2.2.2.1, s.2.2.2.2.2.2.1, s.2.2.2.2.2.2.2.2.1, ()))
def bv (slices_pdqsortCmpFunc_api_Span_r : TJ -> Option (List aa × Unit)) (s : Tv) : Option (Tq ⊕ Unit) :=
 match mn (s.1, s.2.1, s.2.2.2.2.1, s.2.2.2.2.2.1, ()) with
 | none => none
 | some r0 =>
  let t1 := IntKind.i64.wrap (Int.tdiv s.2.2.2.1 8)
  let t2 := (decide (((IntKind.i64.wrap (r0.1 - s.1)) : Int) < (IntKind.i64.wrap (s.2.1 - r0.1))))
  bif t2 then
   let t3 := (decide (((IntKind.i64.wrap (r0.1 - s.1)) : Int) >= t1))
   match slices_pdqsortCmpFunc_api_Span_r (s.1, r0.1, s.2.2.1, r0.2.2.1, ()) with
   | none => none
   | some r4 =>
    some (.inl ((IntKind.i64.wrap (r0.1 + 1)), s.2.1, s.2.2.1, t3, r0.2.1, r4.1, ()))
  else
   let t3 := (decide (((IntKind.i64.wrap (s.2.1 - r0.1)) : Int) >= t1))
   match slices_pdqsortCmpFunc_api_Span_r ((IntKind.i64.wrap (r0.1 + 1)), s.2.1, s.2.2.1, r0.2.2.1, ()) with
   | none => none
   | some r4 =>
    some (.inl (s.1, r0.1, s.2.2.1, t3, r0.2.1, r4.1, ()))
def bi (slices_pdqsortCmpFunc_api_Span_r : TJ -> Option (List aa × Unit)) (s : R9) : Option (Tq ⊕ Tq) :=
 bif decide (s.1 > 0) then
  bif (decide (0 <= (IntKind.i64.wrap (s.1 - 1))) && decide (((IntKind.i64.wrap (s.1 - 1)) : Int) < (List.length s.2.2.2.2.2.2.2.1 : Int))) then
   let t0 := (List.getD s.2.2.2.2.2.2.2.1 (Int.toNat (IntKind.i64.wrap (s.1 - 1))) ([], ([], ())))
   bif decide (0 <= s.2.2.2.2.2.2.1) && decide (s.2.2.2.2.2.2.1 < (List.length s.2.2.2.2.2.2.2.1 : Int)) then
    let t1 := (List.getD s.2.2.2.2.2.2.2.1 (Int.toNat s.2.2.2.2.2.2.1) ([], ([], ())))
    match dK (t0, t1, ()) with
    | none => none
    | some r2 =>
     match bh slices_pdqsortCmpFunc_api_Span_r (s.1, s.2.1, s.2.2.1, s.2.2.2.1, s.2.2.2.2.1, s.2.2.2.2.2.1, s.2.2.2.2.2.2.1, (!(decide (r2.1 < 0))), s.2.2.2.2.2.2.2.1, ()) with
     | none => none
     | some (.inl z3) =>
      match bv slices_pdqsortCmpFunc_api_Span_r (z3.1, z3.2.1, z3.2.2.1, z3.2.2.2.1, z3.2.2.2.2.1, z3.2.2.2.2.2.1, ()) with
      | none => none
      | some (.inl z4) =>
       some (.inl (z4.1, z4.2.1, z4.2.2.1, z4.2.2.2.1, z4.2.2.2.2.1, z4.2.2.2.2.2.1, ()))
      | some (.inr z4) =>
       none
     | some (.inr z3) =>
      some (.inr (z3.1, z3.2.1, z3.2.2.1, z3.2.2.2.1, z3.2.2.2.2.1, z3.2.2.2.2.2.1, ()))
   else none
  else none
 else
  match bh slices_pdqsortCmpFunc_api_Span_r (s.1, s.2.1, s.2.2.1, s.2.2.2.1, s.2.2.2.2.1, s.2.2.2.2.2.1, s.2.2.2.2.2.2.1, false, s.2.2.2.2.2.2.2.1, ()) with
  | none => none
  | some (.inl z0) =>
   match bv slices_pdqsortCmpFunc_api_Span_r (z0.1, z0.2.1, z0.2.2.1, z0.2.2.2.1, z0.2.2.2.2.1, z0.2.2.2.2.2.1, ()) with
   | none => none
   | some (.inl z1) =>
    some (.inl (z1.1, z1.2.1, z1.2.2.1, z1.2.2.2.1, z1.2.2.2.2.1, z1.2.2.2.2.2.1, ()))
   | some (.inr z1) =>
    none
  | some (.inr z0) =>
   some (.inr (z0.1, z0.2.1, z0.2.2.1, z0.2.2.2.1, z0.2.2.2.2.1, z0.2.2.2.2.2.1, ()))
def jW (slices_pdqsortCmpFunc_api_Span_r : TJ -> Option (List aa × Unit)) (s : Int × Int × Int × Bool × Bool × Int × Int × Int × List aa × Unit) : Option (Tq ⊕ ((List aa × Unit) ⊕ Unit)) :=
 bif s.2.2.2.1 then
  bif s.2.2.2.2.1 then
   let t0 := decide (s.2.2.2.2.2.2.2.1 = 1)
   match aR slices_pdqsortCmpFunc_api_Span_r (s.1, s.2.1, s.2.2.1, s.2.2.2.1, s.2.2.2.2.1, s.2.2.2.2.2.1, s.2.2.2.2.2.2.1, t0, s.2.2.2.2.2.2.2.2.1, ()) with
   | none => none
   | some (.inl z1) =>
    match bi slices_pdqsortCmpFunc_api_Span_r (z1.1, z1.2.1, z1.2.2.1, z1.2.2.2.1, z1.2.2.2.2.1, z1.2.2.2.2.2.1, z1.2.2.2.2.2.2.1, z1.2.2.2.2.2.2.2.1, ()) with
    | none => none
    | some (.inl z2) =>
     some (.inl (z2.1, z2.2.1, z2.2.2.1, z2.2.2.2.1, z2.2.2.2.2.1, z2.2.2.2.2.2.1, ()))
    | some (.inr z2) =>
     some (.inl (z2.1, z2.2.1, z2.2.2.1, z2.2.2.2.1, z2.2.2.2.2.1, z2.2.2.2.2.2.1, ()))
   | some (.inr z1) =>
    some (.inr (.inl (z1.1, ())))
  else
   match aR slices_pdqsortCmpFunc_api_Span_r (s.1, s.2.1, s.2.2.1, s.2.2.2.1, s.2.2.2.2.1, s.2.2.2.2.2.1, s.2.2.2.2.2.2.1, false, s.2.2.2.2.2.2.2.2.1, ()) with
   | none => none
   | some (.inl z0) =>
    match bi slices_pdqsortCmpFunc_api_Span_r (z0.1, z0.2.1, z0.2.2.1, z0.2.2.2.1, z0.2.2.2.2.1, z0.2.2.2.2.2.1, z0.2.2.2.2.2.2.1, z0.2.2.2.2.2.2.2.1, ()) with
    | none => none
    | some (.inl z1) =>
     some (.inl (z1.1, z1.2.1, z1.2.2.1, z1.2.2.2.1, z1.2.2.2.2.1, z1.2.2.2.2.2.1, ()))
    | some (.inr z1) =>
     some (.inl (z1.1, z1.2.1, z1.2.2.1, z1.2.2.2.1, z1.2.2.2.2.1, z1.2.2.2.2.2.1, ()))
   | some (.inr z0) =>
    some (.inr (.inl (z0.1, ())))
 else
  match aR slices_pdqsortCmpFunc_api_Span_r (s.1, s.2.1, s.2.2.1, s.2.2.2.1, s.2.2.2.2.1, s.2.2.2.2.2.1, s.2.2.2.2.2.2.1, false, s.2.2.2.2.2.2.2.2.1, ()) with
  | none => none
  | some (.inl z0) =>
   match bi slices_pdqsortCmpFunc_api_Span_r (z0.1, z0.2.1, z0.2.2.1, z0.2.2.2.1, z0.2.2.2.2.1, z0.2.2.2.2.2.1, z0.2.2.2.2.2.2.1, z0.2.2.2.2.2.2.2.1, ()) with
   | none => none
   | some (.inl z1) =>
    some (.inl (z1.1, z1.2.1, z1.2.2.1, z1.2.2.2.1, z1.2.2.2.2.1, z1.2.2.2.2.2.1, ()))
   | some (.inr z1) =>
    some (.inl (z1.1, z1.2.1, z1.2.2.1, z1.2.2.2.1, z1.2.2.2.2.1, z1.2.2.2.2.2.1, ()))
  | some (.inr z0) =>
   some (.inr (.inl (z0.1, ())))
def jV (slices_pdqsortCmpFunc_api_Span_r : TJ -> Option (List aa × Unit)) (s : Int × Int × Int × Bool × Bool × Int × List aa × Unit) : Option (Tq ⊕ ((List aa × Unit) ⊕ Unit)) :=
 match l9 (s.1, s.2.1, s.2.2.2.2.2.2.1, ()) with
 | none => none
 | some r0 =>
  bif decide (r0.2.1 = 2) then
   match kF (s.1, s.2.1, r0.2.2.1, ()) with
   | none => none
   | some r1 =>
    let t2 := (IntKind.i64.wrap ((IntKind.i64.wrap (s.2.1 - 1)) - (IntKind.i64.wrap (r0.1 - s.1))))
    jW slices_pdqsortCmpFunc_api_Span_r (s.1, s.2.1, s.2.2.1, s.2.2.2.1, s.2.2.2.2.1, s.2.2.2.2.2.1, t2, 1, r1.1, ())
  else
   jW slices_pdqsortCmpFunc_api_Span_r (s.1, s.2.1, s.2.2.1, s.2.2.2.1, s.2.2.2.2.1, s.2.2.2.2.2.1, r0.1, r0.2.1, r0.2.2.1, ())

def fJ (slices_pdqsortCmpFunc_api_Span_r : TJ -> Option (List aa × Unit)) (s : Tq) : Option (Tq ⊕ ((List aa × Unit) ⊕ Unit)) :=
 let t0 := (decide (((IntKind.i64.wrap (s.2.1 - s.1)) : Int) <= 12))
 bif t0 then
  match jS (s.1, s.2.1, s.2.2.2.2.2.1, ()) with
  | none => none
  | some r1 =>
   some (.inr (.inl (r1.1, ())))
 else
  bif decide (s.2.2.1 = 0) then
   match mI (s.1, s.2.1, s.2.2.2.2.2.1, ()) with
   | none => none
   | some r1 =>
    some (.inr (.inl (r1.1, ())))
  else
   bif !s.2.2.2.1 then
    match jR (s.1, s.2.1, s.2.2.2.2.2.1, ()) with
    | none => none
    | some r1 =>
     jV slices_pdqsortCmpFunc_api_Span_r (s.1, s.2.1, (IntKind.i64.wrap (s.2.2.1 - 1)), s.2.2.2.1, s.2.2.2.2.1, (IntKind.i64.wrap (s.2.1 - s.1)), r1.1, ())
   else
    jV slices_pdqsortCmpFunc_api_Span_r (s.1, s.2.1, s.2.2.1, s.2.2.2.1, s.2.2.2.2.1, (IntKind.i64.wrap (s.2.1 - s.1)), s.2.2.2.2.2.1, ())
def fK (slices_pdqsortCmpFunc_api_Span_r : TJ -> Option (List aa × Unit)) (s : Tq) : Option ((List aa × Unit) ⊕ Unit) := aQ (fJ slices_pdqsortCmpFunc_api_Span_r) s
def fb (slices_pdqsortCmpFunc_api_Span_r : TJ -> Option (List aa × Unit)) (s : TJ) : Option (List aa × Unit) :=
 match fK slices_pdqsortCmpFunc_api_Span_r (s.1, s.2.1, s.2.2.1, true, true, s.2.2.2.1, ()) with
 | none => none
 | some (.inl z0) =>
  some (z0.1, ())
 | some (.inr z0) =>
  none
def fa : Nat -> TJ -> Option (List aa × Unit)
 | 0, _ => none
 | n + 1, s => fb (fa n) s
def nf (s : TJ) : Option (List aa × Unit) := fa aco s
def lS (s : List aa × Unit) : Option (List aa × Unit) :=
 let t0 := (IntKind.u64.wrap ((List.length s.1) : Int))
 match aas (t0, ()) with
 | none => none
 | some r1 =>
  match nf (0, ((List.length s.1) : Int), r1.1, s.1, ()) with
  | none => none
  | some r2 =>
   some (r2.1, ())
def amd (s : Int × Int × Int × List aa × aa × List aa × Unit) : Option (TF ⊕ ((List aa × Unit) ⊕ Unit)) :=
 bif (decide (0 <= (IntKind.i64.wrap (s.1 - 1))) && decide (((IntKind.i64.wrap (s.1 - 1)) : Int) < (List.length s.2.2.2.1 : Int))) then
  let t0 := (List.getD s.2.2.2.1 (Int.toNat (IntKind.i64.wrap (s.1 - 1))) ([], ([], ())))
  match fC (t0.2.1, s.2.2.2.2.1.2.1, ()) with
  | none => none
  | some r1 =>
   bif decide (r1.1 < 0) then
    bif (decide (0 <= (IntKind.i64.wrap (s.1 - 1))) && decide (((IntKind.i64.wrap (s.1 - 1)) : Int) < (List.length s.2.2.2.1 : Int))) then
     let t2 := (List.set s.2.2.2.1 (Int.toNat (IntKind.i64.wrap (s.1 - 1))) ((List.getD s.2.2.2.1 (Int.toNat (IntKind.i64.wrap (s.1 - 1))) ([], ([], ()))).1, (s.2.2.2.2.1.2.1, (List.getD s.2.2.2.1 (Int.toNat (IntKind.i64.wrap (s.1 - 1))) ([], ([], ()))).2.2)))
     some (.inl (s.2.1, (IntKind.i64.wrap (s.2.2.1 + 1)), t2, s.2.2.2.2.2.1, ()))
    else none
   else
    some (.inl (s.2.1, (IntKind.i64.wrap (s.2.2.1 + 1)), s.2.2.2.1, s.2.2.2.2.2.1, ()))
 else none
def wA (s : Int × Int × Int × Bool × List aa × aa × List aa × Unit) : Option (TF ⊕ ((List aa × Unit) ⊕ Unit)) :=
 bif s.2.2.2.1 then
  bif (decide ((List.length s.2.2.2.2.1 + List.length ([s.2.2.2.2.2.1] : List aa)) * 32 <= am)) then
   let t0 : List aa := (s.2.2.2.2.1 ++ ([s.2.2.2.2.2.1] : List aa))
   some (.inl (s.2.1, (IntKind.i64.wrap (s.2.2.1 + 1)), t0, s.2.2.2.2.2.2.1, ()))
  else none
 else
  amd (s.1, s.2.1, s.2.2.1, s.2.2.2.2.1, s.2.2.2.2.2.1, s.2.2.2.2.2.2.1, ())

def ajN (s : TF) : Option (TF ⊕ ((List aa × Unit) ⊕ Unit)) :=
 bif decide (s.2.1 < s.1) then
  bif decide (0 <= s.2.1) && decide (s.2.1 < (List.length s.2.2.2.1 : Int)) then
   let t0 := (List.getD s.2.2.2.1 (Int.toNat s.2.1) ([], ([], ())))
   let t1 := (decide ((((List.length s.2.2.1) : Int) : Int) = 0))
   bif !t1 then
    let t2 := (IntKind.i64.wrap (((List.length s.2.2.1) : Int) - 1))
    bif decide (0 <= t2) && decide (t2 < (List.length s.2.2.1 : Int)) then
     let t3 := (List.getD s.2.2.1 (Int.toNat t2) ([], ([], ())))
     let t4 := (!decide ((t3.2.1 : List UInt8) = []))
     bif t4 then
      let t5 := (IntKind.i64.wrap (((List.length s.2.2.1) : Int) - 1))
      bif decide (0 <= t5) && decide (t5 < (List.length s.2.2.1 : Int)) then
       let t6 := (List.getD s.2.2.1 (Int.toNat t5) ([], ([], ())))
       wA (((List.length s.2.2.1) : Int), s.1, s.2.1, (Op.bytesLess t6.2.1 t0.1), s.2.2.1, t0, s.2.2.2.1, ())
      else none
     else
      wA (((List.length s.2.2.1) : Int), s.1, s.2.1, false, s.2.2.1, t0, s.2.2.2.1, ())
    else none
   else
    wA (((List.length s.2.2.1) : Int), s.1, s.2.1, true, s.2.2.1, t0, s.2.2.2.1, ())
  else none
 else
  some (.inr (.inl (s.2.2.1, ())))
def ajP := aQ ajN
def abF (s : List aa × Unit) : Option (List aa × Unit) :=
 match nd (s.1, ()) with
 | none => none
 | some r0 =>
  match kr (r0.1, ()) with
  | none => none
  | some r1 =>
   match lS (r1.1, ()) with
   | none => none
   | some r2 =>
    match ajP (((List.length r2.1) : Int), 0, [], r2.1, ()) with
    | none => none
    | some (.inl z3) =>
     some (z3.1, ())
    | some (.inr z3) =>
     none
def ajQ (s : To) : Option (To ⊕ ((List aa × Unit) ⊕ (List UInt8 × List aa × Unit))) :=
 bif decide (s.2.2.2.1 < s.2.2.1) then
  bif decide (0 <= s.2.2.2.1) && decide (s.2.2.2.1 < (List.length s.2.1 : Int)) then
   let t0 := (List.getD s.2.1 (Int.toNat s.2.2.2.1) ([], ([], ())))
   let t1 := (!decide ((t0.1 : List UInt8) = []))
   bif t1 then
    bif (decide ((List.length s.2.2.2.2.1 + List.length ([(s.1, (t0.1, ()))] : List aa)) * 32 <= am)) then
     let t2 : List aa := (s.2.2.2.2.1 ++ ([(s.1, (t0.1, ()))] : List aa))
     let t3 := decide ((t0.2.1 : List UInt8) = [])
     bif t3 then
      some (.inr (.inl (t2, ())))
     else
      let t4 := IntKind.i64.wrap (s.2.2.2.1 + 1)
      some (.inl (t0.2.1, s.2.1, s.2.2.1, t4, t2, ()))
    else none
   else
    let t2 := decide ((t0.2.1 : List UInt8) = [])
    bif t2 then
     some (.inr (.inl (s.2.2.2.2.1, ())))
    else
     let t3 := IntKind.i64.wrap (s.2.2.2.1 + 1)
     some (.inl (t0.2.1, s.2.1, s.2.2.1, t3, s.2.2.2.2.1, ()))
  else none
 else
  some (.inr (.inr (s.1, s.2.2.2.2.1, ())))
def ajS := aQ ajQ
def apK (s : List aa × Unit) : Option (List aa × Unit) :=
 match ajS ([], s.1, ((List.length s.1) : Int), 0, [], ()) with
 | none => none
 | some (.inl z0) =>
  some (z0.1, ())
 | some (.inr z0) =>
  bif (decide ((List.length z0.2.1 + List.length ([(z0.1, ([], ()))] : List aa)) * 32 <= am)) then
   let t1 : List aa := (z0.2.1 ++ ([(z0.1, ([], ()))] : List aa))
   some (t1, ())
  else none
def ahE (s : RS) : Option (RS ⊕ (Tt ⊕ Unit)) :=
 let t0 := decide (s.2.2.2.2.2.1 < s.2.2.2.2.1)
 bif t0 then
  bif decide (0 <= s.2.2.2.2.2.1) && decide (s.2.2.2.2.2.1 < (List.length s.2.2.2.1 : Int)) then
   let t1 := (List.getD s.2.2.2.1 (Int.toNat s.2.2.2.2.2.1) ([], ([], ())))
   match xt (s.2.2.2.2.2.2.2.1, t1, ()) with
   | none => none
   | some r2 =>
    bif (decide ((List.length s.2.2.2.2.2.2.1 + List.length ([r2.1] : List aa)) * 32 <= am)) then
     let t3 : List aa := (s.2.2.2.2.2.2.1 ++ ([r2.1] : List aa))
     let t4 := IntKind.i64.wrap (s.2.2.2.2.2.1 + 1)
     some (.inl (s.1, s.2.1, s.2.2.1, s.2.2.2.1, s.2.2.2.2.1, t4, t3, s.2.2.2.2.2.2.2.1, s.2.2.2.2.2.2.2.2.1, ()))
    else none
  else none
 else
  some (.inr (.inl (s.1, s.2.1, s.2.2.1, s.2.2.2.2.2.2.1, s.2.2.2.2.2.2.2.2.1, ())))
def ahG := aQ ahE
def ahD (s : Tt) : Option (Tt ⊕ ((List aa × Unit) ⊕ Unit)) :=
 bif decide (s.2.2.1 < s.2.1) then
  bif decide (0 <= s.2.2.1) && decide (s.2.2.1 < (List.length s.2.2.2.2.1 : Int)) then
   let t0 := (List.getD s.2.2.2.2.1 (Int.toNat s.2.2.1) ([], ([], ())))
   match ahG (s.1, s.2.1, s.2.2.1, s.1, ((List.length s.1) : Int), 0, s.2.2.2.1, t0, s.2.2.2.2.1, ()) with
   | none => none
   | some (.inl z1) =>
    let t2 := IntKind.i64.wrap (z1.2.2.1 + 1)
    some (.inl (z1.1, z1.2.1, t2, z1.2.2.2.1, z1.2.2.2.2.1, ()))
   | some (.inr z1) =>
    none
  else none
 else
  some (.inr (.inl (s.2.2.2.1, ())))
def ahF := aQ ahD
def aod (s : List aa × List aa × Unit) : Option (List aa × Unit) :=
 match abF (s.2.1, ()) with
 | none => none
 | some r0 =>
  match apK (r0.1, ()) with
  | none => none
  | some r1 =>
   match ahF (s.1, ((List.length r1.1) : Int), 0, [], r1.1, ()) with
   | none => none
   | some (.inl z2) =>
    match abF (z2.1, ()) with
    | none => none
    | some r3 =>
     some (r3.1, ())
   | some (.inr z2) =>
    none
def vl (s : List aa × List aa × Unit) : Option (List aa × List aa × Unit) :=
 match aod (s.2.1, s.1, ()) with
 | none => none
 | some r0 =>
  some (s.2.1, r0.1, ())
def al5 (s : aa × List UInt8 × List UInt8 × Unit) : Option (aa × Unit) :=
 match eG (s.2.2.1, ()) with
 | none => none
 | some r0 =>
  match yR (s.1.1, s.2.1, s.2.2.1, ()) with
  | none => none
  | some r1 =>
   match yR (s.1.2.1, s.2.1, s.2.2.1, ()) with
   | none => none
   | some r2 =>
    bif r2.2.1 then
     some ((r1.1, (r2.1, ())), ())
    else
     some ((r1.1, (r0.1.2.1, ())), ())
def ux (s : Tj) : Option (Tj ⊕ ((Int × List aa × List aa × Unit) ⊕ Unit)) :=
 bif decide (s.2.1 < s.1) then
  bif decide (0 <= s.2.1) && decide (s.2.1 < (List.length s.2.2.2.1 : Int)) then
   let t0 := (List.getD s.2.2.2.1 (Int.toNat s.2.1) ([], ([], ())))
   match xt (t0, s.2.2.2.2.2.1, ()) with
   | none => none
   | some r1 =>
    match jD (r1.1, ()) with
    | none => none
    | some r2 =>
     bif !r2.1 then
      match al5 (r1.1, s.2.2.2.2.1.2.2.2.2.2.1, s.2.2.2.2.1.2.2.2.2.1, ()) with
      | none => none
      | some r3 =>
       bif (decide ((List.length s.2.2.2.2.2.2.1 + List.length ([r3.1] : List aa)) * 32 <= am)) then
        let t4 : List aa := (s.2.2.2.2.2.2.1 ++ ([r3.1] : List aa))
        some (.inl (s.1, (IntKind.i64.wrap (s.2.1 + 1)), s.2.2.1, s.2.2.2.1, s.2.2.2.2.1, s.2.2.2.2.2.1, t4, ()))
       else none
     else
      some (.inl (s.1, (IntKind.i64.wrap (s.2.1 + 1)), s.2.2.1, s.2.2.2.1, s.2.2.2.2.1, s.2.2.2.2.2.1, s.2.2.2.2.2.2.1, ()))
  else none
 else
  some (.inr (.inl (s.2.2.1, s.2.2.2.1, s.2.2.2.2.2.2.1, ())))
def u6 := aQ ux
def u5 (s : Int × List aa × ag × aa × List aa × Unit) : Option (Bool × Int × List aa × Unit) :=
 match vl (s.2.2.2.2.1, s.2.1, ()) with
 | none => none
 | some r0 =>
  match u6 (((List.length r0.1) : Int), 0, s.1, r0.1, s.2.2.1, s.2.2.2.1, r0.2.1, ()) with
  | none => none
  | some (.inl z1) =>
   match abF (z1.2.2.1, ()) with
   | none => none
   | some r2 =>
    bif decide (z1.1 = -1) then
     some (true, 0, r2.1, ())
    else none
  | some (.inr z1) =>
   none
def u0 (s : Bool × Int × List aa × ag × Unit) : Option (Bool × Int × List aa × Unit) :=
 bif s.1 then
  match eG (s.2.2.2.1.2.2.2.2.2.1, ()) with
  | none => none
  | some r0 =>
   let t1 := decide (s.2.2.2.1.1 = 4)
   bif t1 then
    match eG (s.2.2.2.1.2.2.2.2.1, ()) with
    | none => none
    | some r2 =>
     bif (decide ((List.length ([r0.1] : List aa) + List.length ([r2.1] : List aa)) * 32 <= am)) then
      let t3 : List aa := (([r0.1] : List aa) ++ ([r2.1] : List aa))
      u5 (s.2.1, s.2.2.1, s.2.2.2.1, r0.1, t3, ())
     else none
   else
    u5 (s.2.1, s.2.2.1, s.2.2.2.1, r0.1, ([r0.1] : List aa), ())
 else
  bif decide (s.2.1 = -1) then
   some (true, 0, s.2.2.1, ())
  else none
def uz (s : Int × Bool × Int × List aa × ag × Unit) : Option (Bool × Int × List aa × Unit) :=
 bif s.2.1 then
  match yS (s.2.2.2.2.1.2.1, ()) with
  | none => none
  | some r0 =>
   match vl (([r0.1] : List aa), s.2.2.2.1, ()) with
   | none => none
   | some r1 =>
    bif decide (s.2.2.1 = -1) then
     some (true, 0, r1.2.1, ())
    else none
 else
  bif decide (s.1 = 3) then
   match vl (([s.2.2.2.2.1.2.2.2.1] : List aa), s.2.2.2.1, ()) with
   | none => none
   | some r0 =>
    bif decide (s.2.2.1 = -1) then
     some (true, 0, r0.2.1, ())
    else none
  else
   bif decide (s.1 = 4) then
    u0 (true, s.2.2.1, s.2.2.2.1, s.2.2.2.2.1, ())
   else
    u0 ((decide (s.1 = 5)), s.2.2.1, s.2.2.2.1, s.2.2.2.2.1, ())

def s9 (s : Int × ag × Int × List aa × Unit) : Option (Bool × Int × List aa × Unit) :=
 bif decide (s.2.2.1 = 0) then
  bif decide (s.2.2.1 = 0) then
   bif decide (s.2.1.1 = 1) then
    uz (s.2.1.1, true, (-1 : Int), s.2.2.2.1, s.2.1, ())
   else
    uz (s.2.1.1, (decide (s.2.1.1 = 2)), (-1 : Int), s.2.2.2.1, s.2.1, ())
  else none
 else none
def gY (s : Int × Int × List ag × List aa × Unit) : Option ((Int × Int × List ag × List aa × Unit) ⊕ (TM ⊕ TM)) :=
 bif decide (s.1 >= 0) then
  bif decide (0 <= s.1) && decide (s.1 < (List.length s.2.2.1 : Int)) then
   let t0 := (List.getD s.2.2.1 (Int.toNat s.1) (0, ([], ([], (([], ([], ())), ([], ([], (0, ()))))))))
   match s9 (s.1, t0, s.2.1, s.2.2.2.1, ()) with
   | none => none
   | some r1 =>
    bif !r1.1 then
     some (.inr (.inl (r1.2.1, s.2.2.1, r1.2.2.1, ())))
    else
     some (.inl ((IntKind.i64.wrap (s.1 - 1)), r1.2.1, s.2.2.1, r1.2.2.1, ()))
  else none
 else
  some (.inr (.inr (s.2.1, s.2.2.1, s.2.2.2.1, ())))
def hH := aQ gY
def jy (s : TM) : Option TM :=
 let t0 := (IntKind.i64.wrap (((List.length s.2.1) : Int) - 1))
 match hH (t0, s.1, s.2.1, s.2.2.1, ()) with
 | none => none
 | some (.inl z1) =>
  some (z1.1, z1.2.1, z1.2.2.1, ())
 | some (.inr z1) =>
  some (z1.1, z1.2.1, z1.2.2.1, ())
def afI (s : aa × List ag × Unit) : Option (List aa × Unit) :=
 match abF (([s.1] : List aa), ()) with
 | none => none
 | some r0 =>
  match gH (s.2.1, ()) with
  | none => none
  | some r1 =>
   match jy (0, r1.1, r0.1, ()) with
   | none => none
   | some r2 =>
    bif decide (r2.1 = 0) then
     some (r2.2.2.1, ())
    else
     bif decide (r2.1 = 1) then
      some ([], ())
     else none
def vZ (s : T5) : Option (Bool × aa × Unit) :=
 match xt (s.1, s.2.1, ()) with
 | none => none
 | some r0 =>
  match jD (r0.1, ()) with
  | none => none
  | some r1 =>
   some ((!r1.1), s.2.1, ())
def anl (s : List ae × List ag × Int × Int × Unit) : Option ((List ae × List ag × Int × Int × Unit) ⊕ ((List ae × Unit) ⊕ Unit)) :=
 bif decide (s.2.2.2.1 < s.2.2.1) then
  bif decide (0 <= s.2.2.2.1) && decide (s.2.2.2.1 < (List.length s.2.1 : Int)) then
   let t0 := (List.getD s.2.1 (Int.toNat s.2.2.2.1) (0, ([], ([], (([], ([], ())), ([], ([], (0, ()))))))))
   match ak1 (s.1, t0, ()) with
   | none => none
   | some r1 =>
    let t2 := IntKind.i64.wrap (s.2.2.2.1 + 1)
    some (.inl (r1.1, s.2.1, s.2.2.1, t2, ()))
  else none
 else
  some (.inr (.inl (s.1, ())))
def ann := aQ anl
def aqy (s : List ae × List ag × Unit) : Option (List ae × Unit) :=
 match ann (s.1, s.2.1, ((List.length s.2.1) : Int), 0, ()) with
 | none => none
 | some (.inl z0) =>
  some (z0.1, ())
 | some (.inr z0) =>
  none
def adL (s : aa × ae × Unit) : Option (Bool × ae × Unit) :=
 match uh (s.1, s.2.1.1, ()) with
 | none => none
 | some r0 =>
  some (r0.1, s.2.1, ())
def ib (s : List aa × Int × Int × ae × Unit) : Option ((List aa × Int × Int × ae × Unit) ⊕ ((Int × ae × Unit) ⊕ (ae × Unit))) :=
 bif decide (s.2.2.1 < s.2.1) then
  bif decide (0 <= s.2.2.1) && decide (s.2.2.1 < (List.length s.1 : Int)) then
   let t0 := (List.getD s.1 (Int.toNat s.2.2.1) ([], ([], ())))
   match adL (t0, s.2.2.2.1, ()) with
   | none => none
   | some r1 =>
    bif r1.1 then
     some (.inr (.inl (s.2.2.1, r1.2.1, ())))
    else
     some (.inl (s.1, s.2.1, (IntKind.i64.wrap (s.2.2.1 + 1)), r1.2.1, ()))
  else none
 else
  some (.inr (.inr (s.2.2.2.1, ())))
def ie := aQ ib
def j7 (s : List aa × ae × Unit) : Option (Int × ae × Unit) :=
 match ie (s.1, ((List.length s.1) : Int), 0, s.2.1, ()) with
 | none => none
 | some (.inl z0) =>
  some (z0.1, z0.2.1, ())
 | some (.inr z0) =>
  some ((-1 : Int), z0.1, ())
def hJ (s : List aa × ae × Unit) : Option (Bool × ae × Unit) :=
 match j7 (s.1, s.2.1, ()) with
 | none => none
 | some r0 =>
  some ((decide (r0.1 >= 0)), r0.2.1, ())
def aaE (s : ae × List aa × Unit) : Option (Bool × List aa × Unit) :=
 match hJ (s.2.1, s.1, ()) with
 | none => none
 | some r0 =>
  some ((!r0.1), s.2.1, ())
def jz (s : TG) : Option (TG ⊕ ((Int × List ae × List aa × Unit) ⊕ TV)) :=
 bif decide (s.2.1 < s.1) then
  bif decide (0 <= s.2.1) && decide (s.2.1 < (List.length s.2.2.1 : Int)) then
   let t0 := (List.getD s.2.2.1 (Int.toNat s.2.1) ([], ([], (0, ()))))
   match aaE (t0, s.2.2.2.1, ()) with
   | none => none
   | some r1 =>
    bif r1.1 then
     some (.inr (.inl (s.2.1, s.2.2.1, r1.2.1, ())))
    else
     some (.inl (s.1, (IntKind.i64.wrap (s.2.1 + 1)), s.2.2.1, r1.2.1, ()))
  else none
 else
  some (.inr (.inr (s.2.2.1, s.2.2.2.1, ())))
def j1 := aQ jz
def lz (s : TV) : Option (Int × List ae × List aa × Unit) :=
 match j1 (((List.length s.1) : Int), 0, s.1, s.2.1, ()) with
 | none => none
 | some (.inl z0) =>
  some (z0.1, z0.2.1, z0.2.2.1, ())
 | some (.inr z0) =>
  some ((-1 : Int), z0.1, z0.2.1, ())
def iU (s : TG) : Option (TG ⊕ ((Int × List ae × List aa × Unit) ⊕ Unit)) :=
 let t0 := (decide (s.2.1 < ((List.length s.2.2.1) : Int)))
 bif t0 then
  bif decide (0 <= s.2.1) && decide (s.2.1 < (List.length s.2.2.1 : Int)) then
   let t1 := (List.getD s.2.2.1 (Int.toNat s.2.1) ([], ([], (0, ()))))
   match aaE (t1, s.2.2.2.1, ()) with
   | none => none
   | some r2 =>
    bif !r2.1 then
     bif decide (0 <= s.1) && decide (s.1 < (List.length s.2.2.1 : Int)) then
      some (.inl ((IntKind.i64.wrap (s.1 + 1)), (IntKind.i64.wrap (s.2.1 + 1)), (List.set s.2.2.1 (Int.toNat s.1) t1), r2.2.1, ()))
     else none
    else
     some (.inl (s.1, (IntKind.i64.wrap (s.2.1 + 1)), s.2.2.1, r2.2.1, ()))
  else none
 else
  some (.inr (.inl (s.1, s.2.2.1, s.2.2.2.1, ())))
def iW := aQ iU
def kq (s : TV) : Option (List aa × List ae × Unit) :=
 match lz (s.1, s.2.1, ()) with
 | none => none
 | some r0 =>
  bif decide (r0.1 = (-1 : Int)) then
   some (r0.2.2.1, r0.2.1, ())
  else
   match iW (r0.1, (IntKind.i64.wrap (r0.1 + 1)), r0.2.1, r0.2.2.1, ()) with
   | none => none
   | some (.inl z1) =>
    bif (decide (0 <= z1.1) && decide (z1.1 <= (List.length z1.2.1 : Int)) && decide (((List.length z1.2.1 : Int) : Int) <= (List.length z1.2.1 : Int))) then
     let t2 := (List.take (Int.toNat z1.1) z1.2.1 ++ List.replicate ((Int.toNat (List.length z1.2.1 : Int)) - (Int.toNat z1.1)) (([] : List UInt8), (([] : List UInt8), ((0 : Int), ()))) ++ List.drop ((Int.toNat z1.1) + ((Int.toNat (List.length z1.2.1 : Int)) - (Int.toNat z1.1))) z1.2.1)
     bif decide ((0 : Int) <= z1.1) && decide (z1.1 <= (List.length t2 : Int)) then
      some (z1.2.2.1, (List.take (Int.toNat z1.1) t2), ())
     else none
    else none
   | some (.inr z1) =>
    none
def zS (s : TV) : Option (List ae × Unit) :=
 match cG (s.1, ()) with
 | none => none
 | some r0 =>
  match kq (r0.1, s.2.1, ()) with
  | none => none
  | some r1 =>
   some (r1.2.1, ())
def jF (s : ae × Int × List ae × Unit) : Option (Bool × Int × List ae × Unit) :=
 bif decide (s.2.1 = 0) then
  bif decide (s.2.1 = 0) then
   bif (decide ((List.length s.2.2.1 + List.length ([s.1] : List ae)) * 40 <= am)) then
    let t0 : List ae := (s.2.2.1 ++ ([s.1] : List ae))
    some (true, 0, t0, ())
   else none
  else none
 else none
def ig (s : TK) : Option (TK ⊕ ((Int × List aa × aa × Unit) ⊕ T3)) :=
 bif decide (s.2.1 < s.1) then
  bif decide (0 <= s.2.1) && decide (s.2.1 < (List.length s.2.2.1 : Int)) then
   let t0 := (List.getD s.2.2.1 (Int.toNat s.2.1) ([], ([], ())))
   match vZ (t0, s.2.2.2.1, ()) with
   | none => none
   | some r1 =>
    bif r1.1 then
     some (.inr (.inl (s.2.1, s.2.2.1, r1.2.1, ())))
    else
     some (.inl (s.1, (IntKind.i64.wrap (s.2.1 + 1)), s.2.2.1, r1.2.1, ()))
  else none
 else
  some (.inr (.inr (s.2.2.1, s.2.2.2.1, ())))
def ij := aQ ig
def j8 (s : T3) : Option (Int × List aa × aa × Unit) :=
 match ij (((List.length s.1) : Int), 0, s.1, s.2.1, ()) with
 | none => none
 | some (.inl z0) =>
  some (z0.1, z0.2.1, z0.2.2.1, ())
 | some (.inr z0) =>
  some ((-1 : Int), z0.1, z0.2.1, ())
def hK (s : T3) : Option (Bool × List aa × aa × Unit) :=
 match j8 (s.1, s.2.1, ()) with
 | none => none
 | some r0 =>
  some ((decide (r0.1 >= 0)), r0.2.1, r0.2.2.1, ())
def nI (tree_scanner_below_r : TA -> Option (List ae × ah × Int × Unit)) (s : RN) : Option (RQ ⊕ (Tk ⊕ Tk)) :=
 bif s.2.2.1 then
  some (.inr (.inl (s.2.2.2.1, s.2.2.2.2.1, s.2.2.2.2.2.1, s.2.2.2.2.2.2.1, s.2.2.2.2.2.2.2.1, s.2.2.2.2.2.2.2.2.1, s.2.2.2.2.2.2.2.2.2.2.1, ())))
 else
  some (.inl (s.1, (IntKind.i64.wrap (s.2.1 + 1)), s.2.2.2.1, s.2.2.2.2.1, s.2.2.2.2.2.1, s.2.2.2.2.2.2.1, s.2.2.2.2.2.2.2.1, s.2.2.2.2.2.2.2.2.1, s.2.2.2.2.2.2.2.2.2.1, s.2.2.2.2.2.2.2.2.2.2.1, ()))

def lI (tree_scanner_below_r : TA -> Option (List ae × ah × Int × Unit)) (s : RQ) : Option (RQ ⊕ (Tk ⊕ Tk)) :=
 bif decide (s.2.1 < s.1) then
  bif decide (0 <= s.2.1) && decide (s.2.1 < (List.length s.2.2.2.2.2.2.2.2.1 : Int)) then
   let t0 := (List.getD s.2.2.2.2.2.2.2.2.1 (Int.toNat s.2.1) ([], ([], (0, ()))))
   let t1 := (!decide (s.2.2.2.2.2.2.2.1 = 0))
   bif !t1 then
    match jF (t0, s.2.2.1, s.2.2.2.2.2.2.2.2.2.1, ()) with
    | none => none
    | some r2 =>
     nI tree_scanner_below_r (s.1, s.2.1, (!r2.1), r2.2.1, s.2.2.2.1, s.2.2.2.2.1, s.2.2.2.2.2.1, s.2.2.2.2.2.2.1, s.2.2.2.2.2.2.2.1, s.2.2.2.2.2.2.2.2.1, r2.2.2.1, ())
   else
    nI tree_scanner_below_r (s.1, s.2.1, true, s.2.2.1, s.2.2.2.1, s.2.2.2.2.1, s.2.2.2.2.2.1, s.2.2.2.2.2.2.1, s.2.2.2.2.2.2.2.1, s.2.2.2.2.2.2.2.2.1, s.2.2.2.2.2.2.2.2.2.1, ())
  else none
 else
  some (.inr (.inr (s.2.2.1, s.2.2.2.1, s.2.2.2.2.1, s.2.2.2.2.2.1, s.2.2.2.2.2.2.1, s.2.2.2.2.2.2.2.1, s.2.2.2.2.2.2.2.2.2.1, ())))
def lJ (tree_scanner_below_r : TA -> Option (List ae × ah × Int × Unit)) (s : RQ) : Option (Tk ⊕ Tk) := aQ (lI tree_scanner_below_r) s
def qx (tree_scanner_below_r : TA -> Option (List ae × ah × Int × Unit)) (s : List ae × Int × Int × aa × List aa × ah × Int × List ae × Unit) : Option Tk :=
 match zS (s.1, s.2.2.2.2.1, ()) with
 | none => none
 | some r0 =>
  match lJ tree_scanner_below_r (((List.length r0.1) : Int), 0, s.2.1, s.2.2.1, s.2.2.2.1, s.2.2.2.2.1, s.2.2.2.2.2.1, s.2.2.2.2.2.2.1, r0.1, s.2.2.2.2.2.2.2.1, ()) with
  | none => none
  | some (.inl z1) =>
   some (z1.1, z1.2.1, z1.2.2.1, z1.2.2.2.1, z1.2.2.2.2.1, z1.2.2.2.2.2.1, z1.2.2.2.2.2.2.1, ())
  | some (.inr z1) =>
   some (z1.1, z1.2.1, z1.2.2.1, z1.2.2.2.1, z1.2.2.2.2.1, z1.2.2.2.2.2.1, z1.2.2.2.2.2.2.1, ())

def nl (tree_scanner_below_r : TA -> Option (List ae × ah × Int × Unit)) (s : Tk) : Option Tk :=
 match oc (s.2.2.2.2.1, s.2.1, ()) with
 | none => none
 | some r0 =>
  bif (!decide (r0.2.1 = 0)) then
   some (s.1, s.2.1, s.2.2.1, s.2.2.2.1, s.2.2.2.2.1, r0.2.1, s.2.2.2.2.2.2.1, ())
  else
   match tb (r0.1, ()) with
   | none => none
   | some r1 =>
    bif !r1.1 then
     match tree_scanner_below_r (r0.1, s.2.2.1, s.2.2.2.1, s.2.2.2.2.1, s.2.2.2.2.2.1, ()) with
     | none => none
     | some r2 =>
      match aqy (r2.1, r0.1.2.2.2.2.1, ()) with
      | none => none
      | some r3 =>
       qx tree_scanner_below_r (r3.1, s.1, s.2.1, s.2.2.1, s.2.2.2.1, r2.2.1, r2.2.2.1, s.2.2.2.2.2.2.1, ())
    else
     qx tree_scanner_below_r (r0.1.1, s.1, s.2.1, s.2.2.1, s.2.2.2.1, s.2.2.2.2.1, s.2.2.2.2.2.1, s.2.2.2.2.2.2.1, ())
def oW (tree_scanner_below_r : TA -> Option (List ae × ah × Int × Unit)) (s : RT) : Option (RT ⊕ ((List ae × ah × Int × api_Node × aa × List aa × Unit) ⊕ Unit)) :=
 bif decide (s.2.2.2.1 < s.2.2.1) then
  bif decide (0 <= s.2.2.2.1) && decide (s.2.2.2.1 < (List.length s.2.1 : Int)) then
   let t0 := (List.getD s.2.1 (Int.toNat s.2.2.2.1) ([], ([], ())))
   match afI (t0, s.2.2.2.2.2.2.1.2.2.2.2.1, ()) with
   | none => none
   | some r1 =>
    bif decide ((List.length s.2.2.2.2.2.2.2.2.1 + List.length r1.1) * 32 <= am) then
     let t2 := IntKind.i64.wrap (s.2.2.2.1 + 1)
     some (.inl (s.1, s.2.1, s.2.2.1, t2, s.2.2.2.2.1, s.2.2.2.2.2.1, s.2.2.2.2.2.2.1, s.2.2.2.2.2.2.2.1, (s.2.2.2.2.2.2.2.2.1 ++ r1.1), ()))
    else none
  else none
 else
  some (.inr (.inl (s.1, s.2.2.2.2.1, s.2.2.2.2.2.1, s.2.2.2.2.2.2.1, s.2.2.2.2.2.2.2.1, s.2.2.2.2.2.2.2.2.1, ())))
def oZ (tree_scanner_below_r : TA -> Option (List ae × ah × Int × Unit)) (s : RT) : Option ((List ae × ah × Int × api_Node × aa × List aa × Unit) ⊕ Unit) := aQ (oW tree_scanner_below_r) s
def oX (tree_scanner_below_r : TA -> Option (List ae × ah × Int × Unit)) (s : RP) : Option (RP ⊕ ((List ae × ah × Int × Unit) ⊕ (ah × Int × List ae × Unit))) :=
 bif decide (s.2.2.1 < s.2.1) then
  bif decide (0 <= s.2.2.1) && decide (s.2.2.1 < (List.length s.2.2.2.2.2.2.2.1 : Int)) then
   let t0 := (List.getD s.2.2.2.2.2.2.2.1 (Int.toNat s.2.2.1) ([], ([], ())))
   match hK (s.2.2.2.2.2.2.1, t0, ()) with
   | none => none
   | some r1 =>
    bif !r1.1 then
     some (.inl (s.1, s.2.1, (IntKind.i64.wrap (s.2.2.1 + 1)), s.2.2.2.1, s.2.2.2.2.1, s.2.2.2.2.2.1, r1.2.1, s.2.2.2.2.2.2.2.1, s.2.2.2.2.2.2.2.2.1, ()))
    else
     bif decide (0 <= s.2.2.1) && decide (s.2.2.1 < (List.length s.2.2.2.2.2.1.2.2.1 : Int)) then
      let t2 := (List.getD s.2.2.2.2.2.1.2.2.1 (Int.toNat s.2.2.1) 0)
      match sA (t2, r1.2.2.1, r1.2.1, s.2.2.2.1, s.2.2.2.2.1, ()) with
      | none => none
      | some r3 =>
       match nl tree_scanner_below_r (0, r3.2.2.1, r3.2.2.2.1, r3.2.2.2.2.1, r3.1, r3.2.1, s.2.2.2.2.2.2.2.2.1, ()) with
       | none => none
       | some r4 =>
        bif decide (r4.1 = 0) then
         some (.inl (s.1, s.2.1, (IntKind.i64.wrap (s.2.2.1 + 1)), r4.2.2.2.2.1, r4.2.2.2.2.2.1, s.2.2.2.2.2.1, r1.2.1, s.2.2.2.2.2.2.2.1, r4.2.2.2.2.2.2.1, ()))
        else
         bif decide (r4.1 = 1) then
          some (.inr (.inl (s.1, r4.2.2.2.2.1, r4.2.2.2.2.2.1, ())))
         else none
     else none
  else none
 else
  some (.inr (.inr (s.2.2.2.1, s.2.2.2.2.1, s.2.2.2.2.2.2.2.2.1, ())))
def pc (tree_scanner_below_r : TA -> Option (List ae × ah × Int × Unit)) (s : RP) : Option ((List ae × ah × Int × Unit) ⊕ (ah × Int × List ae × Unit)) := aQ (oX tree_scanner_below_r) s
def nj (tree_scanner_below_r : TA -> Option (List ae × ah × Int × Unit)) (s : TA) : Option (List ae × ah × Int × Unit) :=
 match oZ tree_scanner_below_r ([], s.2.2.1, ((List.length s.2.2.1) : Int), 0, s.2.2.2.1, s.2.2.2.2.1, s.1, s.2.1, [], ()) with
 | none => none
 | some (.inl z0) =>
  match yB (z0.2.2.2.1, z0.2.2.2.2.1, ()) with
  | none => none
  | some r1 =>
   match pc tree_scanner_below_r (z0.1, ((List.length r1.1) : Int), 0, z0.2.1, z0.2.2.1, z0.2.2.2.1, z0.2.2.2.2.2.1, r1.1, [], ()) with
   | none => none
   | some (.inl z2) =>
    some (z2.1, z2.2.1, z2.2.2.1, ())
   | some (.inr z2) =>
    some (z2.2.2.1, z2.1, z2.2.1, ())
 | some (.inr z0) =>
  none
def ni : Nat -> TA -> Option (List ae × ah × Int × Unit)
 | 0, _ => none
 | n + 1, s => nj (ni n) s
def yZ (s : TA) : Option (List ae × ah × Int × Unit) := ni aco s
def rD (s : ae × Int × List ae × Unit) : Option (Bool × Int × List ae × Unit) :=
 bif decide (s.2.1 = 0) then
  bif decide (s.2.1 = 0) then
   bif (decide ((List.length s.2.2.1 + List.length ([s.1] : List ae)) * 40 <= am)) then
    let t0 : List ae := (s.2.2.1 ++ ([s.1] : List ae))
    some (true, 0, t0, ())
   else none
  else none
 else none
def qv (s : RN) : Option (RQ ⊕ (Tk ⊕ Tk)) :=
 bif s.2.2.1 then
  some (.inr (.inl (s.2.2.2.1, s.2.2.2.2.1, s.2.2.2.2.2.1, s.2.2.2.2.2.2.1, s.2.2.2.2.2.2.2.1, s.2.2.2.2.2.2.2.2.1, s.2.2.2.2.2.2.2.2.2.2.1, ())))
 else
  some (.inl (s.1, (IntKind.i64.wrap (s.2.1 + 1)), s.2.2.2.1, s.2.2.2.2.1, s.2.2.2.2.2.1, s.2.2.2.2.2.2.1, s.2.2.2.2.2.2.2.1, s.2.2.2.2.2.2.2.2.1, s.2.2.2.2.2.2.2.2.2.1, s.2.2.2.2.2.2.2.2.2.2.1, ()))

def tc (s : RQ) : Option (RQ ⊕ (Tk ⊕ Tk)) :=
 bif decide (s.2.1 < s.1) then
  bif decide (0 <= s.2.1) && decide (s.2.1 < (List.length s.2.2.2.2.2.2.2.2.1 : Int)) then
   let t0 := (List.getD s.2.2.2.2.2.2.2.2.1 (Int.toNat s.2.1) ([], ([], (0, ()))))
   let t1 := (!decide (s.2.2.2.2.2.2.2.1 = 0))
   bif !t1 then
    match rD (t0, s.2.2.1, s.2.2.2.2.2.2.2.2.2.1, ()) with
    | none => none
    | some r2 =>
     qv (s.1, s.2.1, (!r2.1), r2.2.1, s.2.2.2.1, s.2.2.2.2.1, s.2.2.2.2.2.1, s.2.2.2.2.2.2.1, s.2.2.2.2.2.2.2.1, s.2.2.2.2.2.2.2.2.1, r2.2.2.1, ())
   else
    qv (s.1, s.2.1, true, s.2.2.1, s.2.2.2.1, s.2.2.2.2.1, s.2.2.2.2.2.1, s.2.2.2.2.2.2.1, s.2.2.2.2.2.2.2.1, s.2.2.2.2.2.2.2.2.1, s.2.2.2.2.2.2.2.2.2.1, ())
  else none
 else
  some (.inr (.inr (s.2.2.1, s.2.2.2.1, s.2.2.2.2.1, s.2.2.2.2.2.1, s.2.2.2.2.2.2.1, s.2.2.2.2.2.2.2.1, s.2.2.2.2.2.2.2.2.2.1, ())))
def nk := aQ tc
def wc (s : Int × Int × aa × List aa × ah × Int × Unit) : Option Tk :=
 match oc (s.2.2.2.2.1, s.2.1, ()) with
 | none => none
 | some r0 =>
  bif (!decide (r0.2.1 = 0)) then
   some (s.1, s.2.1, s.2.2.1, s.2.2.2.1, s.2.2.2.2.1, r0.2.1, [], ())
  else
   match tb (r0.1, ()) with
   | none => none
   | some r1 =>
    bif !r1.1 then
     match yZ (r0.1, s.2.2.1, s.2.2.2.1, s.2.2.2.2.1, s.2.2.2.2.2.1, ()) with
     | none => none
     | some r2 =>
      match aqy (r2.1, r0.1.2.2.2.2.1, ()) with
      | none => none
      | some r3 =>
       match zS (r3.1, s.2.2.2.1, ()) with
       | none => none
       | some r4 =>
        match nk (((List.length r4.1) : Int), 0, s.1, s.2.1, s.2.2.1, s.2.2.2.1, r2.2.1, r2.2.2.1, r4.1, [], ()) with
        | none => none
        | some (.inl z5) =>
         some (z5.1, z5.2.1, z5.2.2.1, z5.2.2.2.1, z5.2.2.2.2.1, z5.2.2.2.2.2.1, z5.2.2.2.2.2.2.1, ())
        | some (.inr z5) =>
         some (z5.1, z5.2.1, z5.2.2.1, z5.2.2.2.1, z5.2.2.2.2.1, z5.2.2.2.2.2.1, z5.2.2.2.2.2.2.1, ())
    else
     match zS (r0.1.1, s.2.2.2.1, ()) with
     | none => none
     | some r2 =>
      match nk (((List.length r2.1) : Int), 0, s.1, s.2.1, s.2.2.1, s.2.2.2.1, s.2.2.2.2.1, s.2.2.2.2.2.1, r2.1, [], ()) with
      | none => none
      | some (.inl z3) =>
       some (z3.1, z3.2.1, z3.2.2.1, z3.2.2.2.1, z3.2.2.2.2.1, z3.2.2.2.2.2.1, z3.2.2.2.2.2.2.1, ())
      | some (.inr z3) =>
       some (z3.1, z3.2.1, z3.2.2.1, z3.2.2.2.1, z3.2.2.2.2.1, z3.2.2.2.2.2.1, z3.2.2.2.2.2.2.1, ())
def xv (s : az × aa × Unit) : Option (Int × List ae × Unit) :=
 match sA (s.1.2.1, ([], ([], ())), ([s.2.1] : List aa), s.1.1, 0, ()) with
 | none => none
 | some r0 =>
  match wc (0, r0.2.2.1, r0.2.2.2.1, r0.2.2.2.2.1, r0.1, r0.2.1, ()) with
  | none => none
  | some r1 =>
   bif decide (r1.1 = 0) then
    let t2 := (!decide (r1.2.2.2.2.2.1 = 0))
    bif t2 then
     some (r1.2.2.2.2.2.1, [], ())
    else
     some (0, r1.2.2.2.2.2.2.1, ())
   else
    bif decide (r1.1 = 1) then
     some (0, [], ())
    else none
def ah3 (s : List ae × List ae × Int × Unit) : Option ((List ae × List ae × Int × Unit) ⊕ ((Bool × Unit) ⊕ Unit)) :=
 let t0 := (decide (s.2.2.1 < ((List.length s.1) : Int)))
 bif t0 then
  bif decide (0 <= s.2.2.1) && decide (s.2.2.1 < (List.length s.1 : Int)) then
   let t1 := (List.getD s.1 (Int.toNat s.2.2.1) ([], ([], (0, ()))))
   bif decide (0 <= s.2.2.1) && decide (s.2.2.1 < (List.length s.2.1 : Int)) then
    let t2 := (List.getD s.2.1 (Int.toNat s.2.2.1) ([], ([], (0, ()))))
    let t3 := (!(Ty.eqb af t1 t2))
    bif t3 then
     some (.inr (.inl (false, ())))
    else
     some (.inl (s.1, s.2.1, (IntKind.i64.wrap (s.2.2.1 + 1)), ()))
   else none
  else none
 else
  some (.inr (.inr (())))
def ah5 := aQ ah3
def aix (s : TU) : Option (Bool × Unit) :=
 let t0 := (!decide ((((List.length s.1) : Int) : Int) = ((List.length s.2.1) : Int)))
 bif t0 then
  some (false, ())
 else
  match ah5 (s.1, s.2.1, 0, ()) with
  | none => none
  | some (.inl z1) =>
   some (z1.1, ())
  | some (.inr z1) =>
   some (true, ())
def iy (s : Int × Int × List dS × Unit) : Option ((Int × Int × List dS × Unit) ⊕ ((Bool × Unit) ⊕ Unit)) :=
 bif decide (s.2.1 < s.1) then
  bif decide (0 <= s.2.1) && decide (s.2.1 < (List.length s.2.2.1 : Int)) then
   let t0 := (List.getD s.2.2.1 (Int.toNat s.2.1) (0, (0, ())))
   bif (!(decide (t0.1 < 0))) then
    bif (!(decide (t0.1 > t0.2.1))) then
     let t1 := decide (t0.2.1 > 1000000000000000)
     bif t1 then
      some (.inr (.inl (false, ())))
     else
      some (.inl (s.1, (IntKind.i64.wrap (s.2.1 + 1)), s.2.2.1, ()))
    else
     some (.inr (.inl (false, ())))
   else
    some (.inr (.inl (false, ())))
  else none
 else
  some (.inr (.inr (())))
def qK := aQ iy
def ki (s : api_Sum × Unit) : Option (Bool × Unit) :=
 let t0 : Int := ((List.length ([s.1.1, s.1.2.1] : List dS)) : Int)
 match qK (t0, 0, ([s.1.1, s.1.2.1] : List dS), ()) with
 | none => none
 | some (.inl z1) =>
  some (z1.1, ())
 | some (.inr z1) =>
  some (true, ())
def qq (s : List ae × Int × Unit) : Option ((List ae × Int × Unit) ⊕ ((Bool × Unit) ⊕ Unit)) :=
 let t0 := (decide (s.2.1 < ((List.length s.1) : Int)))
 bif t0 then
  bif (decide (0 <= (IntKind.i64.wrap (s.2.1 - 1))) && decide (((IntKind.i64.wrap (s.2.1 - 1)) : Int) < (List.length s.1 : Int))) then
   let t1 := (List.getD s.1 (Int.toNat (IntKind.i64.wrap (s.2.1 - 1))) ([], ([], (0, ()))))
   bif decide (0 <= s.2.1) && decide (s.2.1 < (List.length s.1 : Int)) then
    let t2 := (List.getD s.1 (Int.toNat s.2.1) ([], ([], (0, ()))))
    bif (!(Op.bytesLess t1.1 t2.1)) then
     some (.inr (.inl (false, ())))
    else
     some (.inl (s.1, (IntKind.i64.wrap (s.2.1 + 1)), ()))
   else none
  else none
 else
  some (.inr (.inr (())))
def yW := aQ qq
def zR (s : List ae × Unit) : Option (Bool × Unit) :=
 match yW (s.1, 1, ()) with
 | none => none
 | some (.inl z0) =>
  some (z0.1, ())
 | some (.inr z0) =>
  some (true, ())
def ve (s : ae × Unit) : Option (Bool × Unit) :=
 let t0 := (decide ((((List.length s.1.1) : Int) : Int) >= 1))
 bif t0 then
  let t1 := (decide ((((List.length s.1.1) : Int) : Int) <= 65535))
  bif t1 then
   let t2 := (decide ((((List.length s.1.2.1) : Int) : Int) <= 64))
   bif t2 then
    bif decide (s.1.2.2.1 >= 0) then
     let t3 := decide (s.1.2.2.1 <= 1000000000)
     some (t3, ())
    else
     some (false, ())
   else
    some (false, ())
  else
   some (false, ())
 else
  some (false, ())
def ac2 (s : ae × aa × Unit) : Option (Bool × aa × Unit) :=
 match ve (s.1, ()) with
 | none => none
 | some r0 =>
  bif (!(!r0.1)) then
   match uh (s.2.1, s.1.1, ()) with
   | none => none
   | some r1 =>
    some ((!r1.1), s.2.1, ())
  else
   some (true, s.2.1, ())
def bE (s : List ae × Int × Int × aa × Unit) : Option ((List ae × Int × Int × aa × Unit) ⊕ ((Int × aa × Unit) ⊕ (aa × Unit))) :=
 bif decide (s.2.2.1 < s.2.1) then
  bif decide (0 <= s.2.2.1) && decide (s.2.2.1 < (List.length s.1 : Int)) then
   let t0 := (List.getD s.1 (Int.toNat s.2.2.1) ([], ([], (0, ()))))
   match ac2 (t0, s.2.2.2.1, ()) with
   | none => none
   | some r1 =>
    bif r1.1 then
     some (.inr (.inl (s.2.2.1, r1.2.1, ())))
    else
     some (.inl (s.1, s.2.1, (IntKind.i64.wrap (s.2.2.1 + 1)), r1.2.1, ()))
  else none
 else
  some (.inr (.inr (s.2.2.2.1, ())))
def dg := aQ bE
def dV (s : TY) : Option (Int × aa × Unit) :=
 match dg (s.1, ((List.length s.1) : Int), 0, s.2.1, ()) with
 | none => none
 | some (.inl z0) =>
  some (z0.1, z0.2.1, ())
 | some (.inr z0) =>
  some ((-1 : Int), z0.1, ())
def dU (s : TY) : Option (Bool × aa × Unit) :=
 match dV (s.1, s.2.1, ()) with
 | none => none
 | some r0 =>
  some ((decide (r0.1 >= 0)), r0.2.1, ())
def aax (s : ag × Unit) : Option (List aa × Unit) :=
 some ([], ())
def aat (s : ag × Unit) : Option (List aa × Unit) :=
 some ([], ())
def yp (s : ag × Unit) : Option (List aa × Unit) :=
 some ([], ())
def yt (s : ag × Unit) : Option (List aa × Unit) :=
 match eG (s.1.2.2.2.2.1, ()) with
 | none => none
 | some r0 =>
  some (([r0.1] : List aa), ())
def wp (s : ag × Unit) : Option (List aa × Unit) :=
 match eG (s.1.2.2.2.2.1, ()) with
 | none => none
 | some r0 =>
  some (([r0.1] : List aa), ())
def wu (s : ag × Unit) : Option (List aa × Unit) :=
 some (([s.1.2.2.2.1] : List aa), ())
def qJ (s : ag × Unit) : Option (List aa × Unit) :=
 bif decide (s.1.1 = 1) then
  match aax (s.1, ()) with
  | none => none
  | some r0 =>
   some (r0.1, ())
 else
  bif decide (s.1.1 = 2) then
   match aat (s.1, ()) with
   | none => none
   | some r0 =>
    some (r0.1, ())
  else
   bif decide (s.1.1 = 3) then
    match yp (s.1, ()) with
    | none => none
    | some r0 =>
     some (r0.1, ())
   else
    bif decide (s.1.1 = 4) then
     match yt (s.1, ()) with
     | none => none
     | some r0 =>
      some (r0.1, ())
    else
     bif decide (s.1.1 = 5) then
      match wp (s.1, ()) with
      | none => none
      | some r0 =>
       some (r0.1, ())
     else
      bif decide (s.1.1 = 6) then
       match wu (s.1, ()) with
       | none => none
       | some r0 =>
        some (r0.1, ())
      else
       some ([], ())
def jg (s : T5) : Option (Bool × Unit) :=
 match jD (s.2.1, ()) with
 | none => none
 | some r0 =>
  bif !r0.1 then
   match uh (s.1, s.2.1.1, ()) with
   | none => none
   | some r1 =>
    bif r1.1 then
     match fC (s.1.2.1, s.2.1.2.1, ()) with
     | none => none
     | some r2 =>
      some ((decide (r2.1 >= 0)), ())
    else
     some (false, ())
  else
   some (true, ())
def tK (s : T5) : Option (Bool × aa × Unit) :=
 match jg (s.2.1, s.1, ()) with
 | none => none
 | some r0 =>
  some ((!r0.1), s.2.1, ())
def bF (s : List aa × Int × Int × aa × Unit) : Option ((List aa × Int × Int × aa × Unit) ⊕ ((Int × aa × Unit) ⊕ (aa × Unit))) :=
 bif decide (s.2.2.1 < s.2.1) then
  bif decide (0 <= s.2.2.1) && decide (s.2.2.1 < (List.length s.1 : Int)) then
   let t0 := (List.getD s.1 (Int.toNat s.2.2.1) ([], ([], ())))
   match tK (t0, s.2.2.2.1, ()) with
   | none => none
   | some r1 =>
    bif r1.1 then
     some (.inr (.inl (s.2.2.1, r1.2.1, ())))
    else
     some (.inl (s.1, s.2.1, (IntKind.i64.wrap (s.2.2.1 + 1)), r1.2.1, ()))
  else none
 else
  some (.inr (.inr (s.2.2.2.1, ())))
def dh := aQ bF
def dW (s : T3) : Option (Int × aa × Unit) :=
 match dh (s.1, ((List.length s.1) : Int), 0, s.2.1, ()) with
 | none => none
 | some (.inl z0) =>
  some (z0.1, z0.2.1, ())
 | some (.inr z0) =>
  some ((-1 : Int), z0.1, ())
def bY (s : T3) : Option (Bool × aa × Unit) :=
 match dW (s.1, s.2.1, ()) with
 | none => none
 | some r0 =>
  some ((decide (r0.1 >= 0)), r0.2.1, ())
def bG (s : TK) : Option (TK ⊕ ((Int × List aa × aa × Unit) ⊕ T3)) :=
 bif decide (s.2.1 < s.1) then
  bif decide (0 <= s.2.1) && decide (s.2.1 < (List.length s.2.2.1 : Int)) then
   let t0 := (List.getD s.2.2.1 (Int.toNat s.2.1) ([], ([], ())))
   match tK (t0, s.2.2.2.1, ()) with
   | none => none
   | some r1 =>
    bif r1.1 then
     some (.inr (.inl (s.2.1, s.2.2.1, r1.2.1, ())))
    else
     some (.inl (s.1, (IntKind.i64.wrap (s.2.1 + 1)), s.2.2.1, r1.2.1, ()))
  else none
 else
  some (.inr (.inr (s.2.2.1, s.2.2.2.1, ())))
def dj := aQ bG
def dX (s : T3) : Option (Int × List aa × aa × Unit) :=
 match dj (((List.length s.1) : Int), 0, s.1, s.2.1, ()) with
 | none => none
 | some (.inl z0) =>
  some (z0.1, z0.2.1, z0.2.2.1, ())
 | some (.inr z0) =>
  some ((-1 : Int), z0.1, z0.2.1, ())
def bZ (s : T3) : Option (Bool × List aa × aa × Unit) :=
 match dX (s.1, s.2.1, ()) with
 | none => none
 | some r0 =>
  some ((decide (r0.1 >= 0)), r0.2.1, r0.2.2.1, ())
def xb (s : ag × aa × Unit) : Option (Bool × aa × Unit) :=
 match o6 (s.1, ()) with
 | none => none
 | some r0 =>
  bif (!(!r0.1)) then
   match qJ (s.1, ()) with
   | none => none
   | some r1 =>
    match bY (r1.1, s.2.1, ()) with
    | none => none
    | some r2 =>
     bif !r2.1 then
      match nX (s.1, ()) with
      | none => none
      | some r3 =>
       match bZ (r3.1, r2.2.1, ()) with
       | none => none
       | some r4 =>
        some (r4.1, r4.2.2.1, ())
     else
      some (true, r2.2.1, ())
  else
   some (true, s.2.1, ())
def bP (s : List ag × Int × Int × aa × Unit) : Option ((List ag × Int × Int × aa × Unit) ⊕ ((Int × aa × Unit) ⊕ (aa × Unit))) :=
 bif decide (s.2.2.1 < s.2.1) then
  bif decide (0 <= s.2.2.1) && decide (s.2.2.1 < (List.length s.1 : Int)) then
   let t0 := (List.getD s.1 (Int.toNat s.2.2.1) (0, ([], ([], (([], ([], ())), ([], ([], (0, ()))))))))
   match xb (t0, s.2.2.2.1, ()) with
   | none => none
   | some r1 =>
    bif r1.1 then
     some (.inr (.inl (s.2.2.1, r1.2.1, ())))
    else
     some (.inl (s.1, s.2.1, (IntKind.i64.wrap (s.2.2.1 + 1)), r1.2.1, ()))
  else none
 else
  some (.inr (.inr (s.2.2.2.1, ())))
def dJ := aQ bP
def eQ (s : List ag × aa × Unit) : Option (Int × aa × Unit) :=
 match dJ (s.1, ((List.length s.1) : Int), 0, s.2.1, ()) with
 | none => none
 | some (.inl z0) =>
  some (z0.1, z0.2.1, ())
 | some (.inr z0) =>
  some ((-1 : Int), z0.1, ())
def cH (s : List ag × aa × Unit) : Option (Bool × aa × Unit) :=
 match eQ (s.1, s.2.1, ()) with
 | none => none
 | some r0 =>
  some ((decide (r0.1 >= 0)), r0.2.1, ())
def eP (s : RW) : Option (RW ⊕ ((Bool × Unit) ⊕ TX)) :=
 bif decide (s.2.2.2.1 < s.2.2.1) then
  bif decide (0 <= s.2.2.2.1) && decide (s.2.2.2.1 < (List.length s.2.1 : Int)) then
   let t0 := (List.getD s.2.1 (Int.toNat s.2.2.2.1) [])
   let t1 := (Op.bytesLess t0 s.1 || decide ((t0 : List UInt8) = s.1))
   bif !t1 then
    let t2 := (!decide ((s.2.2.2.2.2.1.2.1 : List UInt8) = []))
    bif t2 then
     bif (!(Op.bytesLess t0 s.2.2.2.2.2.1.2.1)) then
      some (.inr (.inl (false, ())))
     else
      let t3 := IntKind.i64.wrap (s.2.2.2.1 + 1)
      some (.inl (t0, s.2.1, s.2.2.1, t3, s.2.2.2.2.1, s.2.2.2.2.2.1, ()))
    else
     let t3 := IntKind.i64.wrap (s.2.2.2.1 + 1)
     some (.inl (t0, s.2.1, s.2.2.1, t3, s.2.2.2.2.1, s.2.2.2.2.2.1, ()))
   else
    some (.inr (.inl (false, ())))
  else none
 else
  some (.inr (.inr (s.2.2.2.2.1, s.2.2.2.2.2.1, ())))
def o7 := aQ eP
def m9 (s : List Int × Int × Int × api_Node × aa × Unit) : Option ((List Int × Int × Int × api_Node × aa × Unit) ⊕ ((Bool × Unit) ⊕ TX)) :=
 bif decide (s.2.2.1 < s.2.1) then
  bif decide (0 <= s.2.2.1) && decide (s.2.2.1 < (List.length s.1 : Int)) then
   let t0 := (List.getD s.1 (Int.toNat s.2.2.1) 0)
   bif (!(decide (t0 < 0))) then
    bif (!(decide (t0 >= 4096))) then
     bif decide (0 <= s.2.2.1) && decide (s.2.2.1 < (List.length s.2.2.2.1.2.2.2.1 : Int)) then
      let t1 := (List.getD s.2.2.2.1.2.2.2.1 (Int.toNat s.2.2.1) ((0, (0, ())), ((0, (0, ())), ())))
      match ki (t1, ()) with
      | none => none
      | some r2 =>
       bif !r2.1 then
        some (.inr (.inl (false, ())))
       else
        some (.inl (s.1, s.2.1, (IntKind.i64.wrap (s.2.2.1 + 1)), s.2.2.2.1, s.2.2.2.2.1, ()))
     else none
    else
     some (.inr (.inl (false, ())))
   else
    some (.inr (.inl (false, ())))
  else none
 else
  some (.inr (.inr (s.2.2.2.1, s.2.2.2.2.1, ())))
def vd := aQ m9
def mA (s : Bool × api_Node × aa × Unit) : Option (Bool × Unit) :=
 bif s.1 then
  some (false, ())
 else
  match o7 (s.2.2.1.1, s.2.1.2.1, ((List.length s.2.1.2.1) : Int), 0, s.2.1, s.2.2.1, ()) with
  | none => none
  | some (.inl z0) =>
   some (z0.1, ())
  | some (.inr z0) =>
   match vd (z0.1.2.2.1, ((List.length z0.1.2.2.1) : Int), 0, z0.1, z0.2.1, ()) with
   | none => none
   | some (.inl z1) =>
    some (z1.1, ())
   | some (.inr z1) =>
    match cH (z1.1.2.2.2.2.1, z1.2.1, ()) with
    | none => none
    | some r2 =>
     some ((!r2.1), ())

def ix (s : TX) : Option (Bool × Unit) :=
 let t0 := (decide ((((List.length s.1.2.2.1) : Int) : Int) = 0))
 bif t0 then
  let t1 := (IntKind.i64.wrap (((List.length s.1.2.1) : Int) + ((List.length s.1.2.2.2.1) : Int)))
  let t2 := (IntKind.i64.wrap (t1 + ((List.length s.1.2.2.2.2.1) : Int)))
  bif decide (t2 = 0) then
   match zR (s.1.1, ()) with
   | none => none
   | some r3 =>
    bif r3.1 then
     match dU (s.1.1, s.2.1, ()) with
     | none => none
     | some r4 =>
      some ((!r4.1), ())
    else
     some (false, ())
  else
   some (false, ())
 else
  let t1 := (decide ((((List.length s.1.1) : Int) : Int) > 0))
  bif !t1 then
   let t2 := (!decide ((((List.length s.1.2.2.2.1) : Int) : Int) = ((List.length s.1.2.2.1) : Int)))
   bif !t2 then
    let t3 := (IntKind.i64.wrap (((List.length s.1.2.2.1) : Int) - 1))
    let t4 := (!decide ((((List.length s.1.2.1) : Int) : Int) = t3))
    mA (t4, s.1, s.2.1, ())
   else
    mA (true, s.1, s.2.1, ())
  else
   mA (true, s.1, s.2.1, ())
def pX (s : TB) : Option (Int × Int × Int × Int × Unit) :=
 let t0 : Int := (if ((IntKind.i64.wrap (s.2.2.1 + s.1)) : Int) < 0 then 0 else (IntKind.i64.wrap (s.2.2.1 + s.1)))
 let t1 : Int := (if (1000000000000000 : Int) < t0 then 1000000000000000 else t0)
 let t2 : Int := (if (1000000000000000 : Int) < (IntKind.i64.wrap (s.2.2.2.1 + s.2.1)) then 1000000000000000 else (IntKind.i64.wrap (s.2.2.2.1 + s.2.1)))
 some (t1, t2, s.2.2.2.2.1, s.2.2.2.2.2.1, ())
def kh (s : TB) : Option (Int × Int × Int × Int × Unit) :=
 let t0 : Int := (if ((IntKind.i64.wrap (s.2.2.2.2.1 + s.1)) : Int) < 0 then 0 else (IntKind.i64.wrap (s.2.2.2.2.1 + s.1)))
 let t1 : Int := (if (1000000000000000 : Int) < t0 then 1000000000000000 else t0)
 let t2 := IntKind.i64.wrap (s.2.2.2.2.2.1 + s.2.1)
 let t3 : Int := (if (1000000000000000 : Int) < t2 then 1000000000000000 else t2)
 some (s.2.2.1, s.2.2.2.1, t1, t3, ())
def iw (s : av) : Option (Int × Unit) := some ((fun a c => Lib.indexByte a c.toNat.toUInt8) s.1 s.2.1, ())
def zJ (s : av) : Option (Int × Unit) :=
 match iw (s.1, s.2.1, ()) with
 | none => none
 | some r0 =>
  some (r0.1, ())
def uk (s : Int × Unit) : Option (Bool × Unit) :=
 bif decide ((0 : Int) <= s.1) then
  bif decide (s.1 < 55296) then
   some (true, ())
  else
   bif decide ((57343 : Int) < s.1) then
    bif decide (s.1 <= 1114111) then
     some (true, ())
    else
     some (false, ())
   else
    some (false, ())
 else
  bif decide ((57343 : Int) < s.1) then
   bif decide (s.1 <= 1114111) then
    some (true, ())
   else
    some (false, ())
  else
   some (false, ())
def vO (s : av) : Option (av ⊕ ((Int × Unit) ⊕ Unit)) :=
 bif decide (s.2.1 < (List.length s.1 : Int)) then
  let t0 := (decide (((w9 s.1 s.2.1).1 : Int) = 65533))
  bif t0 then
   some (.inr (.inl (s.2.1, ())))
  else
   some (.inl (s.1, (s.2.1 + (w9 s.1 s.2.1).2), ()))
 else
  some (.inr (.inr (())))
def vR := aQ vO
def vQ (s : TN) : Option (Int × Unit) :=
 bif s.2.2.1 then
  match zJ (s.1, (IntKind.u8.wrap s.2.1), ()) with
  | none => none
  | some r0 =>
   some (r0.1, ())
 else
  bif decide (s.2.1 = 65533) then
   match vR (s.1, 0, ()) with
   | none => none
   | some (.inl z0) =>
    some (z0.1, ())
   | some (.inr z0) =>
    some ((-1 : Int), ())
  else
   match uk (s.2.1, ()) with
   | none => none
   | some r0 =>
    bif !r0.1 then
     some ((-1 : Int), ())
    else none

def px (s : av) : Option (Int × Unit) :=
 bif decide ((0 : Int) <= s.2.1) then
  vQ (s.1, s.2.1, (decide (s.2.1 < 128)), ())
 else
  vQ (s.1, s.2.1, false, ())
def rg (s : Int × Unit) : Option (Bool × Unit) :=
 some ((decide (s.1 > 8)), ())
def ut (s : ae) : Option (ae ⊕ ((Int × Unit) ⊕ Unit)) :=
 bif decide (s.2.2.1 < (List.length s.2.1 : Int)) then
  match px (s.1, (w9 s.2.1 s.2.2.1).1, ()) with
  | none => none
  | some r0 =>
   bif decide (r0.1 >= 0) then
    some (.inr (.inl (s.2.2.1, ())))
   else
    some (.inl (s.1, s.2.1, (s.2.2.1 + (w9 s.2.1 s.2.2.1).2), ()))
 else
  some (.inr (.inr (())))
def uv := aQ ut
def s8 (s : aa) : Option (Int × Unit) :=
 let t0 := decide ((s.2.1 : List UInt8) = [])
 bif t0 then
  some ((-1 : Int), ())
 else
  let t1 := (decide ((((List.length s.2.1) : Int) : Int) = 1))
  bif t1 then
   bif decide ((0 : Int) < (List.length s.2.1 : Int)) then
    let t2 := (IntKind.i32.wrap ((List.getD s.2.1 0 0).toNat : Int))
    bif decide (t2 >= 128) then
     match px (s.1, 65533, ()) with
     | none => none
     | some r3 =>
      some (r3.1, ())
    else
     match px (s.1, t2, ()) with
     | none => none
     | some r3 =>
      some (r3.1, ())
   else none
  else
   match rg (((List.length s.1) : Int), ()) with
   | none => none
   | some r2 =>
    bif r2.1 then
     none
    else
     match uv (s.2.1, s.1, 0, ()) with
     | none => none
     | some (.inl z3) =>
      some (z3.1, ())
     | some (.inr z3) =>
      some ((-1 : Int), ())
def abG (s : aa) : Option (Int × Unit) := orE (s8 s) (aiT s)
def afd (s : Tc) : Option (List UInt8 × Int × List UInt8 × List UInt8 × Int × Int × List UInt8 × Unit) :=
 match abG (s.1, ([1, 2, 3] : List UInt8), ()) with
 | none => none
 | some r0 =>
  bif decide (r0.1 < 0) then
   some ([], 0, s.1, s.2.1, s.2.2.1, s.2.2.2.1, s.2.2.2.2.1, ())
  else
   bif decide ((0 : Int) <= r0.1) && decide (r0.1 <= (List.length s.1 : Int)) then
    let t1 := (List.drop 0 (List.take (Int.toNat r0.1) s.1))
    bif decide (0 <= r0.1) && decide (r0.1 < (List.length s.1 : Int)) then
     let t2 : Int := ((List.getD s.1 (Int.toNat r0.1) 0).toNat : Int)
     bif (decide (0 <= (IntKind.i64.wrap (r0.1 + 1))) && decide (((IntKind.i64.wrap (r0.1 + 1)) : Int) <= (List.length s.1 : Int)) && decide (((List.length s.1 : Int) : Int) <= (List.length s.1 : Int))) then
      let t3 := (List.drop (Int.toNat (IntKind.i64.wrap (r0.1 + 1))) (List.take (Int.toNat (List.length s.1 : Int)) s.1))
      some (t1, t2, t3, s.2.1, s.2.2.1, s.2.2.2.1, s.2.2.2.2.1, ())
     else none
    else none
   else none
def yG (s : RU) : Option Tc :=
 bif s.2.1 then
  bif decide ((0 : Int) < (List.length s.2.2.1 : Int)) then
   let t0 := IntKind.i64.wrap ((List.getD s.2.2.1 0 0).toNat : Int)
   let t1 := (IntKind.i64.wrap (t0 * 2 ^ (min (Int.toNat 8) IntKind.i64.bits)))
   bif decide ((1 : Int) < (List.length s.2.2.1 : Int)) then
    let t2 : Int := ((List.getD s.2.2.1 (Int.toNat 1) 0).toNat : Int)
    let t3 := (IntKind.i64.wrap ((BitVec.ofInt IntKind.i64.bits t1 ||| BitVec.ofInt IntKind.i64.bits (IntKind.i64.wrap t2)).toNat : Int))
    some (s.2.2.1, s.2.2.2.1, s.2.2.2.2.1, t3, s.2.2.2.2.2.2.1, ())
   else none
  else none
 else
  bif decide (s.1 = 3) then
   some (s.2.2.1, s.2.2.2.1, s.2.2.2.2.1, s.2.2.2.2.2.1, s.2.2.1, ())
  else
   some (s.2.2.1, s.2.2.2.1, s.2.2.2.2.1, s.2.2.2.2.2.1, s.2.2.2.2.2.2.1, ())
def yF (s : RU) : Option Tc :=
 bif s.2.1 then
  some (s.2.2.1, s.2.2.2.1, 4, s.2.2.2.2.2.1, s.2.2.2.2.2.2.1, ())
 else
  bif decide (s.1 = 2) then
   let t0 := (decide ((((List.length s.2.2.1) : Int) : Int) = 2))
   yG (s.1, t0, s.2.2.1, s.2.2.2.1, s.2.2.2.2.1, s.2.2.2.2.2.1, s.2.2.2.2.2.2.1, ())
  else
   yG (s.1, false, s.2.2.1, s.2.2.2.1, s.2.2.2.2.1, s.2.2.2.2.2.1, s.2.2.2.2.2.2.1, ())

def adA (s : Tc) : Option Tc :=
 match uj (s.1, ([6] : List UInt8), ()) with
 | none => none
 | some r0 =>
  match afd (r0.1, s.2.1, s.2.2.1, s.2.2.2.1, s.2.2.2.2.1, ()) with
  | none => none
  | some r1 =>
   bif r0.2.1 then
    yF (r1.2.1, (decide (r1.2.1 = 1)), r1.2.2.1, r1.1, (IntKind.i64.wrap r1.2.1), r1.2.2.2.2.2.1, r1.2.2.2.2.2.2.1, ())
   else
    yF (r1.2.1, false, r1.2.2.1, r1.1, (IntKind.i64.wrap r1.2.1), r1.2.2.2.2.2.1, r1.2.2.2.2.2.2.1, ())
def nB (s : List UInt8 × List UInt8 × Int × Bool × Unit) : Option (Int × Unit) :=
 bif s.2.2.2.1 then
  some (0, ())
 else
  bif decide (s.2.2.1 = 1) then
   bif decide ((0 : Int) < (List.length s.2.1 : Int)) then
    match iw (s.1, ((List.getD s.2.1 0 0).toNat : Int), ()) with
    | none => none
    | some r0 =>
     some (r0.1, ())
   else none
  else
   let t0 := (decide (s.2.2.1 >= ((List.length s.1) : Int)))
   bif t0 then
    some ((-1 : Int), ())
   else none

def pU (s : aa) : Option (Int × Unit) :=
 let t0 := (decide ((((List.length s.2.1) : Int) : Int) = 0))
 bif !t0 then
  nB (s.1, s.2.1, ((List.length s.2.1) : Int), (decide ((s.2.1 : List UInt8) = s.1)), ())
 else
  nB (s.1, s.2.1, ((List.length s.2.1) : Int), true, ())
def rO (s : aa) : Option TE :=
 match pU (s.1, s.2.1, ()) with
 | none => none
 | some r0 =>
  bif decide (r0.1 >= 0) then
   bif decide ((0 : Int) <= r0.1) && decide (r0.1 <= (List.length s.1 : Int)) then
    let t1 := (List.drop 0 (List.take (Int.toNat r0.1) s.1))
    let t2 := (IntKind.i64.wrap (r0.1 + ((List.length s.2.1) : Int)))
    bif (decide (0 <= t2) && decide (t2 <= (List.length s.1 : Int)) && decide (((List.length s.1 : Int) : Int) <= (List.length s.1 : Int))) then
     let t3 := (List.drop (Int.toNat t2) (List.take (Int.toNat (List.length s.1 : Int)) s.1))
     some (t1, t3, true, ())
    else none
   else none
  else
   some (s.1, [], false, ())
def al0 (s : aa) : Option TE :=
 match rO (s.1, s.2.1, ()) with
 | none => none
 | some r0 =>
  some (r0.1, r0.2.1, r0.2.2.1, ())
def ahr (s : Int × Unit) : Option (Bool × Unit) :=
 bif (!(decide (s.1 < 33))) then
  bif (!(decide (s.1 > 126))) then
   some ((decide (s.1 = 47)), ())
  else
   some (true, ())
 else
  some (true, ())
def vS (s : Bool × List UInt8 × Int × Unit) : Option ((Bool × List UInt8 × Int × Unit) ⊕ ((Int × Unit) ⊕ Unit)) :=
 bif decide (s.2.2.1 < (List.length s.2.1 : Int)) then
  match ahr ((w9 s.2.1 s.2.2.1).1, ()) with
  | none => none
  | some r0 =>
   bif (r0.1 == s.1) then
    some (.inr (.inl (s.2.2.1, ())))
   else
    some (.inl (s.1, s.2.1, (s.2.2.1 + (w9 s.2.1 s.2.2.1).2), ()))
 else
  some (.inr (.inr (())))
def vU := aQ vS
def zN (s : TW) : Option (Int × Unit) :=
 match vU (s.2.1, s.1, 0, ()) with
 | none => none
 | some (.inl z0) =>
  some (z0.1, ())
 | some (.inr z0) =>
  some ((-1 : Int), ())
def zK (s : List UInt8 × Unit) : Option (Int × Unit) :=
 match zN (s.1, true, ()) with
 | none => none
 | some r0 =>
  some (r0.1, ())
def afb (s : List UInt8 × Unit) : Option (Bool × Unit) :=
 let t0 := decide ((s.1 : List UInt8) = [])
 bif !t0 then
  let t1 := (decide ((((List.length s.1) : Int) : Int) > 12))
  bif !t1 then
   let t2 := decide ((s.1 : List UInt8) = ([46] : List UInt8))
   bif !t2 then
    let t3 := decide ((s.1 : List UInt8) = ([46, 46] : List UInt8))
    bif t3 then
     some (false, ())
    else
     match zK (s.1, ()) with
     | none => none
     | some r4 =>
      some ((decide (r4.1 < 0)), ())
   else
    some (false, ())
  else
   some (false, ())
 else
  some (false, ())
def ahn (s : List UInt8 × Unit) : Option ((List UInt8 × Unit) ⊕ ((Bool × Unit) ⊕ Unit)) :=
 let t0 := (!decide ((s.1 : List UInt8) = []))
 bif t0 then
  match al0 (s.1, ([47] : List UInt8), ()) with
  | none => none
  | some r1 =>
   bif (!(!r1.2.2.1)) then
    match afb (r1.1, ()) with
    | none => none
    | some r2 =>
     bif !r2.1 then
      some (.inr (.inl (false, ())))
     else
      some (.inl (r1.2.1, ()))
   else
    some (.inr (.inl (false, ())))
 else
  some (.inr (.inr (())))
def ahp := aQ ahn
def aio (s : List UInt8 × Unit) : Option (Bool × Unit) :=
 match ahp (s.1, ()) with
 | none => none
 | some (.inl z0) =>
  some (z0.1, ())
 | some (.inr z0) =>
  some (true, ())
def py (s : TN) : Option (av ⊕ ((List UInt8 × Unit) ⊕ Unit)) :=
 bif s.2.2.1 then
  let t0 := (IntKind.i64.wrap (((List.length s.1) : Int) - 1))
  bif decide ((0 : Int) <= t0) && decide (t0 <= (List.length s.1 : Int)) then
   let t1 := (List.drop 0 (List.take (Int.toNat t0) s.1))
   some (.inl (t1, s.2.1, ()))
  else none
 else
  some (.inr (.inl (s.1, ())))

def rY (s : av) : Option (av ⊕ ((List UInt8 × Unit) ⊕ Unit)) :=
 let t0 := (decide ((((List.length s.1) : Int) : Int) > 0))
 bif t0 then
  let t1 := (IntKind.i64.wrap (((List.length s.1) : Int) - 1))
  bif decide (0 <= t1) && decide (t1 < (List.length s.1 : Int)) then
   let t2 : Int := ((List.getD s.1 (Int.toNat t1) 0).toNat : Int)
   py (s.1, s.2.1, (decide (t2 = s.2.1)), ())
  else none
 else
  py (s.1, s.2.1, false, ())
def sc := aQ rY
def uw (s : av) : Option (List UInt8 × Unit) :=
 match sc (s.1, s.2.1, ()) with
 | none => none
 | some (.inl z0) =>
  some (z0.1, ())
 | some (.inr z0) =>
  none
def qp (s : TN) : Option (av ⊕ ((List UInt8 × Unit) ⊕ Unit)) :=
 bif s.2.2.1 then
  bif (decide ((1 : Int) <= (List.length s.1 : Int)) && decide (((List.length s.1 : Int) : Int) <= (List.length s.1 : Int))) then
   let t0 := (List.drop (Int.toNat 1) (List.take (Int.toNat (List.length s.1 : Int)) s.1))
   some (.inl (t0, s.2.1, ()))
  else none
 else
  some (.inr (.inl (s.1, ())))

def sY (s : av) : Option (av ⊕ ((List UInt8 × Unit) ⊕ Unit)) :=
 let t0 := (decide ((((List.length s.1) : Int) : Int) > 0))
 bif t0 then
  bif decide ((0 : Int) < (List.length s.1 : Int)) then
   let t1 := (decide ((((List.getD s.1 0 0).toNat : Int) : Int) = s.2.1))
   qp (s.1, s.2.1, t1, ())
  else none
 else
  qp (s.1, s.2.1, false, ())
def ta := aQ sY
def vV (s : av) : Option (List UInt8 × Unit) :=
 match ta (s.1, s.2.1, ()) with
 | none => none
 | some (.inl z0) =>
  some (z0.1, ())
 | some (.inr z0) =>
  none
def zM (s : TE) : Option (List UInt8 × Unit) :=
 bif s.2.2.1 then
  bif decide ((0 : Int) < (List.length s.2.1 : Int)) then
   match uw (s.1, ((List.getD s.2.1 0 0).toNat : Int), ()) with
   | none => none
   | some r0 =>
    bif decide ((0 : Int) < (List.length s.2.1 : Int)) then
     match vV (r0.1, ((List.getD s.2.1 0 0).toNat : Int), ()) with
     | none => none
     | some r1 =>
      some (r1.1, ())
    else none
  else none
 else none
def zL (s : TE) : Option (List UInt8 × Unit) :=
 bif s.2.2.1 then
  some (s.1, ())
 else
  let t0 := (decide ((((List.length s.2.1) : Int) : Int) = 1))
  bif t0 then
   bif decide ((0 : Int) < (List.length s.2.1 : Int)) then
    let t1 := (decide ((((List.getD s.2.1 0 0).toNat : Int) : Int) < 128))
    zM (s.1, s.2.1, t1, ())
   else none
  else
   zM (s.1, s.2.1, false, ())

def yU (s : aa) : Option (List UInt8 × Unit) :=
 let t0 := decide ((s.1 : List UInt8) = [])
 bif !t0 then
  let t1 := decide ((s.2.1 : List UInt8) = [])
  zL (s.1, s.2.1, t1, ())
 else
  zL (s.1, s.2.1, true, ())
def ajU (s : aa) : Option (List UInt8 × Unit) := orE (yU s) (afT s)
def tL (s : TW) : Option (Bool × Unit) :=
 bif s.2.1 then
  some (false, ())
 else
  bif decide ((9 : Int) <= (List.length s.1 : Int)) then
   let t0 := (List.drop (Int.toNat 1) (List.take (Int.toNat 9) s.1))
   match ajU (t0, ([48, 49, 50, 51, 52, 53, 54, 55, 56, 57, 97, 98, 99, 100, 101, 102] : List UInt8), ()) with
   | none => none
   | some r1 =>
    let t2 := decide ((r1.1 : List UInt8) = [])
    some (t2, ())
  else none

def alf (s : List UInt8 × Unit) : Option (Bool × Unit) :=
 let t0 := (!decide ((((List.length s.1) : Int) : Int) = 10))
 bif !t0 then
  bif decide ((0 : Int) < (List.length s.1 : Int)) then
   let t1 := (!decide ((((List.getD s.1 0 0).toNat : Int) : Int) = 5))
   bif !t1 then
    bif decide ((1 : Int) < (List.length s.1 : Int)) then
     let t2 : Int := ((List.getD s.1 (Int.toNat 1) 0).toNat : Int)
     bif (!(decide (t2 > 55))) then
      bif decide ((9 : Int) < (List.length s.1 : Int)) then
       let t3 : Int := ((List.getD s.1 (Int.toNat 9) 0).toNat : Int)
       tL (s.1, (!decide (t3 = 47)), ())
      else none
     else
      tL (s.1, true, ())
    else none
   else
    tL (s.1, true, ())
  else none
 else
  tL (s.1, true, ())
def i4 (s : Bool × cD × Unit) : Option (Unit ⊕ av) :=
 bif s.1 then
  bif decide (List.length ([6] : List UInt8) + List.length s.2.1.1 <= am) then
   bif (decide (List.length (([6] : List UInt8) ++ s.2.1.1) + List.length ([1] : List UInt8) <= am)) then
    let t0 : List UInt8 := ((([6] : List UInt8) ++ s.2.1.1) ++ ([1] : List UInt8))
    some (.inr (t0, 0, ()))
   else none
  else none
 else
  some (.inl (()))
def fA (s : Te) : Option (Unit ⊕ av) :=
 bif s.1 then
  bif decide (List.length s.2.1.1 + List.length ([3] : List UInt8) <= am) then
   bif (decide (List.length (s.2.1.1 ++ ([3] : List UInt8)) + List.length s.2.1.2.2.2.1 <= am)) then
    let t0 : List UInt8 := ((s.2.1.1 ++ ([3] : List UInt8)) ++ s.2.1.2.2.2.1)
    some (.inr (t0, 0, ()))
   else none
  else none
 else
  bif decide (s.2.1.2.1 = 4) then
   let t0 := (Ty.eqb aF s.2.1 (s.2.2.1, (s.2.2.2.1, (s.2.2.2.2.1, (s.2.2.2.2.2.1, ())))))
   match i4 (t0, s.2.1, ()) with
   | none => none
   | some (.inl z1) =>
    some (.inl (()))
   | some (.inr z1) =>
    some (.inr (z1.1, z1.2.1, ()))
  else
   match i4 (false, s.2.1, ()) with
   | none => none
   | some (.inl z0) =>
    some (.inl (()))
   | some (.inr z0) =>
    some (.inr (z0.1, z0.2.1, ()))
def dT (s : Te) : Option (Unit ⊕ av) :=
 bif s.1 then
  let t0 : Int := (Int.fdiv s.2.1.2.2.1 (2 ^ (min (Int.toNat 8) IntKind.i64.bits)))
  let t1 : List UInt8 := (vK ([2, (IntKind.u8.wrap t0), (IntKind.u8.wrap s.2.1.2.2.1)] : List Int))
  bif decide (List.length s.2.1.1 + List.length t1 <= am) then
   some (.inr ((s.2.1.1 ++ t1), 0, ()))
  else none
 else
  bif decide (s.2.1.2.1 = 3) then
   let t0 := decide (s.2.1.2.2.1 = 0)
   bif t0 then
    match afb (s.2.1.2.2.2.1, ()) with
    | none => none
    | some r1 =>
     match fA (r1.1, s.2.1, s.2.2.1, s.2.2.2.1, s.2.2.2.2.1, s.2.2.2.2.2.1, ()) with
     | none => none
     | some (.inl z2) =>
      some (.inl (()))
     | some (.inr z2) =>
      some (.inr (z2.1, z2.2.1, ()))
   else
    match fA (false, s.2.1, s.2.2.1, s.2.2.2.1, s.2.2.2.2.1, s.2.2.2.2.2.1, ()) with
    | none => none
    | some (.inl z1) =>
     some (.inl (()))
    | some (.inr z1) =>
     some (.inr (z1.1, z1.2.1, ()))
  else
   match fA (false, s.2.1, s.2.2.1, s.2.2.2.1, s.2.2.2.2.1, s.2.2.2.2.2.1, ()) with
   | none => none
   | some (.inl z0) =>
    some (.inl (()))
   | some (.inr z0) =>
    some (.inr (z0.1, z0.2.1, ()))
def iz (s : Te) : Option (Unit ⊕ av) :=
 bif s.1 then
  bif decide (List.length s.2.1.1 + List.length ([1] : List UInt8) <= am) then
   some (.inr ((s.2.1.1 ++ ([1] : List UInt8)), 0, ()))
  else none
 else
  bif decide (s.2.1.2.1 = 2) then
   let t0 := decide ((s.2.1.2.2.2.1 : List UInt8) = [])
   bif t0 then
    let t1 := decide (s.2.1.2.2.1 >= 0)
    bif t1 then
     let t2 := decide (s.2.1.2.2.1 <= 60000)
     match dT (t2, s.2.1, s.2.2.1, s.2.2.2.1, s.2.2.2.2.1, s.2.2.2.2.2.1, ()) with
     | none => none
     | some (.inl z3) =>
      some (.inl (()))
     | some (.inr z3) =>
      some (.inr (z3.1, z3.2.1, ()))
    else
     match dT (false, s.2.1, s.2.2.1, s.2.2.2.1, s.2.2.2.2.1, s.2.2.2.2.2.1, ()) with
     | none => none
     | some (.inl z2) =>
      some (.inl (()))
     | some (.inr z2) =>
      some (.inr (z2.1, z2.2.1, ()))
   else
    match dT (false, s.2.1, s.2.2.1, s.2.2.2.1, s.2.2.2.2.1, s.2.2.2.2.2.1, ()) with
    | none => none
    | some (.inl z1) =>
     some (.inl (()))
    | some (.inr z1) =>
     some (.inr (z1.1, z1.2.1, ()))
  else
   match dT (false, s.2.1, s.2.2.1, s.2.2.2.1, s.2.2.2.2.1, s.2.2.2.2.2.1, ()) with
   | none => none
   | some (.inl z0) =>
    some (.inl (()))
   | some (.inr z0) =>
    some (.inr (z0.1, z0.2.1, ()))
def fB (s : Te) : Option (Unit ⊕ av) :=
 bif s.1 then
  bif decide (s.2.1.2.1 = 1) then
   let t0 := (Ty.eqb aF s.2.1 (s.2.2.1, (s.2.2.2.1, (s.2.2.2.2.1, (s.2.2.2.2.2.1, ())))))
   match iz (t0, s.2.1, s.2.2.1, s.2.2.2.1, s.2.2.2.2.1, s.2.2.2.2.2.1, ()) with
   | none => none
   | some (.inl z1) =>
    some (.inl (()))
   | some (.inr z1) =>
    some (.inr (z1.1, z1.2.1, ()))
  else
   match iz (false, s.2.1, s.2.2.1, s.2.2.2.1, s.2.2.2.2.1, s.2.2.2.2.2.1, ()) with
   | none => none
   | some (.inl z0) =>
    some (.inl (()))
   | some (.inr z0) =>
    some (.inr (z0.1, z0.2.1, ()))
 else
  some (.inl (()))
def arJ (s : cD × Unit) : Option av :=
 match aio (s.1.1, ()) with
 | none => none
 | some r0 =>
  bif !r0.1 then
   match alf (s.1.1, ()) with
   | none => none
   | some r1 =>
    bif r1.1 then
     match fB ((!decide (s.1.2.1 = 4)), s.1, s.1.1, s.1.2.1, 0, [], ()) with
     | none => none
     | some (.inl z2) =>
      some ([], 12, ())
     | some (.inr z2) =>
      some (z2.1, z2.2.1, ())
    else
     match fB (false, s.1, s.1.1, s.1.2.1, 0, [], ()) with
     | none => none
     | some (.inl z2) =>
      some ([], 12, ())
     | some (.inr z2) =>
      some (z2.1, z2.2.1, ())
  else
   match fB (true, s.1, s.1.1, s.1.2.1, 0, [], ()) with
   | none => none
   | some (.inl z1) =>
    some ([], 12, ())
   | some (.inr z1) =>
    some (z1.1, z1.2.1, ())
def lg (s : List UInt8 × Unit) : Option (cD × Int × Unit) :=
 match adA (s.1, [], 0, 0, [], ()) with
 | none => none
 | some r0 =>
  match arJ ((r0.2.1, (r0.2.2.1, (r0.2.2.2.1, (r0.2.2.2.2.1, ())))), ()) with
  | none => none
  | some r1 =>
   bif (!(!decide (r1.2.1 = 0))) then
    bif (!decide ((r1.1 : List UInt8) = s.1)) then
     some (([], (0, (0, ([], ())))), 12, ())
    else
     some ((r0.2.1, (r0.2.2.1, (r0.2.2.2.1, (r0.2.2.2.2.1, ())))), 0, ())
   else
    some (([], (0, (0, ([], ())))), 12, ())
def uK (s : TB) : Option (Int × Int × Int × Int × Unit) :=
 match pX (s.1, s.2.1, s.2.2.1, s.2.2.2.1, s.2.2.2.2.1, s.2.2.2.2.2.1, ()) with
 | none => none
 | some r0 =>
  match kh (s.1, s.2.1, r0.1, r0.2.1, r0.2.2.1, r0.2.2.2.1, ()) with
  | none => none
  | some r1 =>
   some (r1.1, r1.2.1, r1.2.2.1, r1.2.2.2.1, ())
def agh (s : List UInt8 × Unit) : Option (Int × Unit) :=
 let t0 := decide ((s.1 : List UInt8) = [])
 bif t0 then
  some (0, ())
 else
  bif decide ((0 : Int) < (List.length s.1 : Int)) then
   let t1 := (decide ((((List.getD s.1 0 0).toNat : Int) : Int) = 6))
   bif t1 then
    some (6, ())
   else
    match aio (s.1, ()) with
    | none => none
    | some r2 =>
     bif r2.1 then
      some (1, ())
     else
      bif decide (List.length s.1 + List.length ([1] : List UInt8) <= am) then
       match lg ((s.1 ++ ([1] : List UInt8)), ()) with
       | none => none
       | some r3 =>
        bif decide (r3.2.1 = 0) then
         bif decide ((r3.1.1 : List UInt8) = s.1) then
          some (5, ())
         else
          some (0, ())
        else
         some (0, ())
      else none
  else none
def yD (s : aa) : Option (Bool × Unit) :=
 match agh (s.1, ()) with
 | none => none
 | some r0 =>
  bif (!decide (r0.1 = 0)) then
   match agh (s.1, ()) with
   | none => none
   | some r1 =>
    match agh (s.2.1, ()) with
    | none => none
    | some r2 =>
     some ((decide (r1.1 = r2.1)), ())
  else
   some (false, ())
def wR (s : ae × Unit) : Option sL :=
 match lg (s.1.1, ()) with
 | none => none
 | some r0 =>
  bif (!decide (r0.2.1 = 0)) then
   some ((0, (0, ())), ())
  else
   bif decide (r0.1.2.1 = 1) then
    some ((1, (0, ())), ())
   else
    bif decide (r0.1.2.1 = 4) then
     some ((0, (0, ())), ())
    else
     some ((0, (((List.length s.1.2.1) : Int), ())), ())
def pS (s : Tm) : Option (Tm ⊕ ((Int × Int × Int × Int × Unit) ⊕ Unit)) :=
 bif decide (s.2.2.1 < s.2.1) then
  bif decide (0 <= s.2.2.1) && decide (s.2.2.1 < (List.length s.1 : Int)) then
   let t0 := (List.getD s.1 (Int.toNat s.2.2.1) ([], ([], (0, ()))))
   match wR (t0, ()) with
   | none => none
   | some r1 =>
    let t2 := IntKind.i64.wrap (s.2.2.2.2.2.1 + r1.1.1)
    let t3 := IntKind.i64.wrap (s.2.2.2.2.2.2.1 + r1.1.2.1)
    some (.inl (s.1, s.2.1, (IntKind.i64.wrap (s.2.2.1 + 1)), s.2.2.2.1, s.2.2.2.2.1, t2, t3, ()))
  else none
 else
  some (.inr (.inl (s.2.2.2.1, s.2.2.2.2.1, s.2.2.2.2.2.1, s.2.2.2.2.2.2.1, ())))
def yb := aQ pS
def zp (s : List ae × Unit) : Option sL :=
 match yb (s.1, ((List.length s.1) : Int), 0, 0, 0, 0, 0, ()) with
 | none => none
 | some (.inl z0) =>
  some ((z0.2.2.1, (z0.2.2.2.1, ())), ())
 | some (.inr z0) =>
  none
def vE (s : RK) : Option (RK ⊕ ((api_Node × Int × Int × Int × Int × Int × Int × Int × Int × Unit) ⊕ Unit)) :=
 bif decide (s.2.2.1 < s.2.1) then
  bif decide (0 <= s.2.2.1) && decide (s.2.2.1 < (List.length s.1 : Int)) then
   let t0 := (List.getD s.1 (Int.toNat s.2.2.1) ((0, (0, ())), ((0, (0, ())), ())))
   match pX (t0.1.1, t0.1.2.1, s.2.2.2.2.2.2.2.2.1, s.2.2.2.2.2.2.2.2.2.1, s.2.2.2.2.2.2.2.2.2.2.1, s.2.2.2.2.2.2.2.2.2.2.2.1, ()) with
   | none => none
   | some r1 =>
    match kh (t0.2.1.1, t0.2.1.2.1, r1.1, r1.2.1, r1.2.2.1, r1.2.2.2.1, ()) with
    | none => none
    | some r2 =>
     some (.inl (s.1, s.2.1, (IntKind.i64.wrap (s.2.2.1 + 1)), s.2.2.2.1, s.2.2.2.2.1, s.2.2.2.2.2.1, s.2.2.2.2.2.2.1, s.2.2.2.2.2.2.2.1, r2.1, r2.2.1, r2.2.2.1, r2.2.2.2.1, ()))
  else none
 else
  some (.inr (.inl (s.2.2.2.1, s.2.2.2.2.1, s.2.2.2.2.2.1, s.2.2.2.2.2.2.1, s.2.2.2.2.2.2.2.1, s.2.2.2.2.2.2.2.2.1, s.2.2.2.2.2.2.2.2.2.1, s.2.2.2.2.2.2.2.2.2.2.1, s.2.2.2.2.2.2.2.2.2.2.2.1, ())))
def aeY := aQ vE
def eO (s : List ag × Int × Int × Bool × Int × Int × Int × Int × Int × Int × Int × Int × ag × Unit) : Option (RR ⊕ ((Int × Int × Int × Int × Int × Int × Int × Int × Unit) ⊕ Unit)) :=
 bif s.2.2.2.1 then
  match pX ((-1 : Int), 0, s.2.2.2.2.2.2.2.2.1, s.2.2.2.2.2.2.2.2.2.1, s.2.2.2.2.2.2.2.2.2.2.1, s.2.2.2.2.2.2.2.2.2.2.2.1, ()) with
  | none => none
  | some r0 =>
   some (.inl (s.1, s.2.1, (IntKind.i64.wrap (s.2.2.1 + 1)), s.2.2.2.2.1, s.2.2.2.2.2.1, s.2.2.2.2.2.2.1, s.2.2.2.2.2.2.2.1, r0.1, r0.2.1, r0.2.2.1, r0.2.2.2.1, ()))
 else
  let t0 := decide (s.2.2.2.2.2.2.2.2.2.2.2.2.1.1 = 2)
  bif t0 then
   match kh ((-64 : Int), 0, s.2.2.2.2.2.2.2.2.1, s.2.2.2.2.2.2.2.2.2.1, s.2.2.2.2.2.2.2.2.2.2.1, s.2.2.2.2.2.2.2.2.2.2.2.1, ()) with
   | none => none
   | some r1 =>
    some (.inl (s.1, s.2.1, (IntKind.i64.wrap (s.2.2.1 + 1)), s.2.2.2.2.1, s.2.2.2.2.2.1, s.2.2.2.2.2.2.1, s.2.2.2.2.2.2.2.1, r1.1, r1.2.1, r1.2.2.1, r1.2.2.2.1, ()))
  else
   let t1 := decide (s.2.2.2.2.2.2.2.2.2.2.2.2.1.1 = 3)
   bif t1 then
    match uK ((-1000000000000000 : Int), 0, s.2.2.2.2.2.2.2.2.1, s.2.2.2.2.2.2.2.2.2.1, s.2.2.2.2.2.2.2.2.2.2.1, s.2.2.2.2.2.2.2.2.2.2.2.1, ()) with
    | none => none
    | some r2 =>
     some (.inl (s.1, s.2.1, (IntKind.i64.wrap (s.2.2.1 + 1)), s.2.2.2.2.1, s.2.2.2.2.2.1, s.2.2.2.2.2.2.1, s.2.2.2.2.2.2.2.1, r2.1, r2.2.1, r2.2.2.1, r2.2.2.2.1, ()))
   else
    let t2 := decide (s.2.2.2.2.2.2.2.2.2.2.2.2.1.1 = 6)
    bif t2 then
     some (.inl (s.1, s.2.1, (IntKind.i64.wrap (s.2.2.1 + 1)), s.2.2.2.2.1, s.2.2.2.2.2.1, s.2.2.2.2.2.2.1, s.2.2.2.2.2.2.2.1, s.2.2.2.2.2.2.2.2.1, s.2.2.2.2.2.2.2.2.2.1, s.2.2.2.2.2.2.2.2.2.2.1, s.2.2.2.2.2.2.2.2.2.2.2.1, ()))
    else
     match yD (s.2.2.2.2.2.2.2.2.2.2.2.2.1.2.2.2.2.1, s.2.2.2.2.2.2.2.2.2.2.2.2.1.2.2.2.2.2.1, ()) with
     | none => none
     | some r3 =>
      bif !r3.1 then
       match uK ((-1000000000000000 : Int), 1000000000000000, s.2.2.2.2.2.2.2.2.1, s.2.2.2.2.2.2.2.2.2.1, s.2.2.2.2.2.2.2.2.2.2.1, s.2.2.2.2.2.2.2.2.2.2.2.1, ()) with
       | none => none
       | some r4 =>
        some (.inl (s.1, s.2.1, (IntKind.i64.wrap (s.2.2.1 + 1)), s.2.2.2.2.1, s.2.2.2.2.2.1, s.2.2.2.2.2.2.1, s.2.2.2.2.2.2.2.1, r4.1, r4.2.1, r4.2.2.1, r4.2.2.2.1, ()))
      else
       let t4 := decide (s.2.2.2.2.2.2.2.2.2.2.2.2.1.1 = 5)
       bif t4 then
        match pX ((-1000000000000000 : Int), s.2.2.2.2.2.2.2.2.2.1, s.2.2.2.2.2.2.2.2.1, s.2.2.2.2.2.2.2.2.2.1, s.2.2.2.2.2.2.2.2.2.2.1, s.2.2.2.2.2.2.2.2.2.2.2.1, ()) with
        | none => none
        | some r5 =>
         match kh ((-1000000000000000 : Int), r5.2.2.2.1, r5.1, r5.2.1, r5.2.2.1, r5.2.2.2.1, ()) with
         | none => none
         | some r6 =>
          some (.inl (s.1, s.2.1, (IntKind.i64.wrap (s.2.2.1 + 1)), s.2.2.2.2.1, s.2.2.2.2.2.1, s.2.2.2.2.2.2.1, s.2.2.2.2.2.2.2.1, r6.1, r6.2.1, r6.2.2.1, r6.2.2.2.1, ()))
       else
        match uK ((-1000000000000000 : Int), 0, s.2.2.2.2.2.2.2.2.1, s.2.2.2.2.2.2.2.2.2.1, s.2.2.2.2.2.2.2.2.2.2.1, s.2.2.2.2.2.2.2.2.2.2.2.1, ()) with
        | none => none
        | some r5 =>
         some (.inl (s.1, s.2.1, (IntKind.i64.wrap (s.2.2.1 + 1)), s.2.2.2.2.1, s.2.2.2.2.2.1, s.2.2.2.2.2.2.1, s.2.2.2.2.2.2.2.1, r5.1, r5.2.1, r5.2.2.1, r5.2.2.2.1, ()))
def cO (s : Bool × List ag × Int × Int × Bool × Int × Int × Int × Int × Int × Int × Int × Int × ag × Unit) : Option (RR ⊕ ((Int × Int × Int × Int × Int × Int × Int × Int × Unit) ⊕ Unit)) :=
 bif s.2.2.2.2.1 then
  match pX (0, 1, s.2.2.2.2.2.2.2.2.2.1, s.2.2.2.2.2.2.2.2.2.2.1, s.2.2.2.2.2.2.2.2.2.2.2.1, s.2.2.2.2.2.2.2.2.2.2.2.2.1, ()) with
  | none => none
  | some r0 =>
   let t1 := IntKind.i64.wrap (s.2.2.2.1 + 1)
   some (.inl (s.2.1, s.2.2.1, t1, s.2.2.2.2.2.1, s.2.2.2.2.2.2.1, s.2.2.2.2.2.2.2.1, s.2.2.2.2.2.2.2.2.1, r0.1, r0.2.1, r0.2.2.1, r0.2.2.2.1, ()))
 else
  let t0 := decide (s.2.2.2.2.2.2.2.2.2.2.2.2.2.1.1 = 1)
  bif t0 then
   let t1 : Int := ((List.length s.2.2.2.2.2.2.2.2.2.2.2.2.2.1.2.2.1) : Int)
   match kh ((-64 : Int), t1, s.2.2.2.2.2.2.2.2.2.1, s.2.2.2.2.2.2.2.2.2.2.1, s.2.2.2.2.2.2.2.2.2.2.2.1, s.2.2.2.2.2.2.2.2.2.2.2.2.1, ()) with
   | none => none
   | some r2 =>
    let t3 := IntKind.i64.wrap (s.2.2.2.1 + 1)
    some (.inl (s.2.1, s.2.2.1, t3, s.2.2.2.2.2.1, s.2.2.2.2.2.2.1, s.2.2.2.2.2.2.2.1, s.2.2.2.2.2.2.2.2.1, r2.1, r2.2.1, r2.2.2.1, r2.2.2.2.1, ()))
  else
   let t1 := decide (s.2.2.2.2.2.2.2.2.2.2.2.2.2.1.1 = 2)
   bif t1 then
    eO (s.2.1, s.2.2.1, s.2.2.2.1, s.1, s.2.2.2.2.2.1, s.2.2.2.2.2.2.1, s.2.2.2.2.2.2.2.1, s.2.2.2.2.2.2.2.2.1, s.2.2.2.2.2.2.2.2.2.1, s.2.2.2.2.2.2.2.2.2.2.1, s.2.2.2.2.2.2.2.2.2.2.2.1, s.2.2.2.2.2.2.2.2.2.2.2.2.1, s.2.2.2.2.2.2.2.2.2.2.2.2.2.1, ())
   else
    eO (s.2.1, s.2.2.1, s.2.2.2.1, false, s.2.2.2.2.2.1, s.2.2.2.2.2.2.1, s.2.2.2.2.2.2.2.1, s.2.2.2.2.2.2.2.2.1, s.2.2.2.2.2.2.2.2.2.1, s.2.2.2.2.2.2.2.2.2.2.1, s.2.2.2.2.2.2.2.2.2.2.2.1, s.2.2.2.2.2.2.2.2.2.2.2.2.1, s.2.2.2.2.2.2.2.2.2.2.2.2.2.1, ())
def cE (s : Bool × List ag × Int × Int × Int × Int × Int × Int × Int × Int × Int × Int × ag × Unit) : Option (RR ⊕ ((Int × Int × Int × Int × Int × Int × Int × Int × Unit) ⊕ Unit)) :=
 let t0 := decide (s.2.2.2.2.2.2.2.2.2.2.2.2.1.1 = 1)
 bif t0 then
  cO (s.1, s.2.1, s.2.2.1, s.2.2.2.1, s.1, s.2.2.2.2.1, s.2.2.2.2.2.1, s.2.2.2.2.2.2.1, s.2.2.2.2.2.2.2.1, s.2.2.2.2.2.2.2.2.1, s.2.2.2.2.2.2.2.2.2.1, s.2.2.2.2.2.2.2.2.2.2.1, s.2.2.2.2.2.2.2.2.2.2.2.1, s.2.2.2.2.2.2.2.2.2.2.2.2.1, ())
 else
  cO (s.1, s.2.1, s.2.2.1, s.2.2.2.1, false, s.2.2.2.2.1, s.2.2.2.2.2.1, s.2.2.2.2.2.2.1, s.2.2.2.2.2.2.2.1, s.2.2.2.2.2.2.2.2.1, s.2.2.2.2.2.2.2.2.2.1, s.2.2.2.2.2.2.2.2.2.2.1, s.2.2.2.2.2.2.2.2.2.2.2.1, s.2.2.2.2.2.2.2.2.2.2.2.2.1, ())

def nC (s : RR) : Option (RR ⊕ ((Int × Int × Int × Int × Int × Int × Int × Int × Unit) ⊕ Unit)) :=
 bif decide (s.2.2.1 < s.2.1) then
  bif decide (0 <= s.2.2.1) && decide (s.2.2.1 < (List.length s.1 : Int)) then
   let t0 := (List.getD s.1 (Int.toNat s.2.2.1) (0, ([], ([], (([], ([], ())), ([], ([], (0, ()))))))))
   match lg (t0.2.1, ()) with
   | none => none
   | some r1 =>
    bif decide (r1.2.1 = 0) then
     cE ((decide (r1.1.2.1 = 1)), s.1, s.2.1, s.2.2.1, s.2.2.2.1, s.2.2.2.2.1, s.2.2.2.2.2.1, s.2.2.2.2.2.2.1, s.2.2.2.2.2.2.2.1, s.2.2.2.2.2.2.2.2.1, s.2.2.2.2.2.2.2.2.2.1, s.2.2.2.2.2.2.2.2.2.2.1, t0, ())
    else
     cE (false, s.1, s.2.1, s.2.2.1, s.2.2.2.1, s.2.2.2.2.1, s.2.2.2.2.2.1, s.2.2.2.2.2.2.1, s.2.2.2.2.2.2.2.1, s.2.2.2.2.2.2.2.2.1, s.2.2.2.2.2.2.2.2.2.1, s.2.2.2.2.2.2.2.2.2.2.1, t0, ())
  else none
 else
  some (.inr (.inl (s.2.2.2.1, s.2.2.2.2.1, s.2.2.2.2.2.1, s.2.2.2.2.2.2.1, s.2.2.2.2.2.2.2.1, s.2.2.2.2.2.2.2.2.1, s.2.2.2.2.2.2.2.2.2.1, s.2.2.2.2.2.2.2.2.2.2.1, ())))
def aeZ := aQ nC
def yC (s : api_Node × Unit) : Option (api_Sum × Unit) :=
 let t0 := (decide ((((List.length s.1.2.2.1) : Int) : Int) = 0))
 bif t0 then
  match zp (s.1.1, ()) with
  | none => none
  | some r1 =>
   some (((r1.1.1, (r1.1.1, ())), ((r1.1.2.1, (r1.1.2.1, ())), ())), ())
 else
  match aeY (s.1.2.2.2.1, ((List.length s.1.2.2.2.1) : Int), 0, s.1, 0, 0, 0, 0, 0, 0, 0, 0, ()) with
  | none => none
  | some (.inl z1) =>
   match aeZ (z1.1.2.2.2.2.1, ((List.length z1.1.2.2.2.2.1) : Int), 0, z1.2.1, z1.2.2.1, z1.2.2.2.1, z1.2.2.2.2.1, z1.2.2.2.2.2.1, z1.2.2.2.2.2.2.1, z1.2.2.2.2.2.2.2.1, z1.2.2.2.2.2.2.2.2.1, ()) with
   | none => none
   | some (.inl z2) =>
    some (((z2.2.2.2.2.1, (z2.2.2.2.2.2.1, ())), ((z2.2.2.2.2.2.2.1, (z2.2.2.2.2.2.2.2.1, ())), ())), ())
   | some (.inr z2) =>
    none
  | some (.inr z1) =>
   none
def mr (tree_height_r : TT -> Option (Int × Unit)) (s : Int × Int × Int × Int × Int × ah × api_Node × List aa × Unit) : Option (Tf ⊕ ((Int × Unit) ⊕ (Int × Unit))) :=
 bif decide (0 <= s.2.1) && decide (s.2.1 < (List.length s.2.2.2.2.2.2.1.2.2.1 : Int)) then
  let t0 := (List.getD s.2.2.2.2.2.2.1.2.2.1 (Int.toNat s.2.1) 0)
  match oc (s.2.2.2.2.2.1, t0, ()) with
  | none => none
  | some r1 =>
   match yC (r1.1, ()) with
   | none => none
   | some r2 =>
    bif decide (0 <= s.2.1) && decide (s.2.1 < (List.length s.2.2.2.2.2.2.1.2.2.2.1 : Int)) then
     let t3 := (List.getD s.2.2.2.2.2.2.1.2.2.2.1 (Int.toNat s.2.1) ((0, (0, ())), ((0, (0, ())), ())))
     let t4 := (!(Ty.eqb aG r2.1 t3))
     bif t4 then
      some (.inr (.inl (0, ())))
     else
      let t5 := IntKind.i64.wrap (s.2.2.2.2.1 + 1)
      some (.inl (s.1, s.2.2.1, s.2.2.2.1, t5, s.2.2.2.2.2.1, s.2.2.2.2.2.2.1, s.2.2.2.2.2.2.2.1, ()))
    else none
 else none

def fc (tree_height_r : TT -> Option (Int × Unit)) (s : Tf) : Option (Tf ⊕ ((Int × Unit) ⊕ (Int × Unit))) :=
 bif decide (s.2.2.2.1 < s.2.2.1) then
  bif decide (0 <= s.2.2.2.1) && decide (s.2.2.2.1 < (List.length s.2.2.2.2.2.2.1 : Int)) then
   let t0 := (List.getD s.2.2.2.2.2.2.1 (Int.toNat s.2.2.2.1) ([], ([], ())))
   bif decide (0 <= s.2.2.2.1) && decide (s.2.2.2.1 < (List.length s.2.2.2.2.2.1.2.2.1 : Int)) then
    let t1 := (List.getD s.2.2.2.2.2.1.2.2.1 (Int.toNat s.2.2.2.1) 0)
    match tree_height_r (s.2.2.2.2.1, t1, t0, (IntKind.i64.wrap (s.1 - 1)), ()) with
    | none => none
    | some r2 =>
     bif (!(decide (r2.1 = 0))) then
      bif decide (s.2.2.2.1 > 0) then
       bif (!decide (r2.1 = s.2.1)) then
        some (.inr (.inl (0, ())))
       else
        mr tree_height_r (s.1, s.2.2.2.1, r2.1, s.2.2.1, s.2.2.2.1, s.2.2.2.2.1, s.2.2.2.2.2.1, s.2.2.2.2.2.2.1, ())
      else
       mr tree_height_r (s.1, s.2.2.2.1, r2.1, s.2.2.1, s.2.2.2.1, s.2.2.2.2.1, s.2.2.2.2.2.1, s.2.2.2.2.2.2.1, ())
     else
      some (.inr (.inl (0, ())))
   else none
  else none
 else
  some (.inr (.inr (s.2.1, ())))
def nh (tree_height_r : TT -> Option (Int × Unit)) (s : Tf) : Option ((Int × Unit) ⊕ (Int × Unit)) := aQ (fc tree_height_r) s
def jh (tree_height_r : TT -> Option (Int × Unit)) (s : Int × Bool × ah × aa × api_Node × Unit) : Option (Int × Unit) :=
 bif s.2.1 then
  some (0, ())
 else
  match tb (s.2.2.2.2.1, ()) with
  | none => none
  | some r0 =>
   bif r0.1 then
    some (1, ())
   else
    match yB (s.2.2.2.2.1, s.2.2.2.1, ()) with
    | none => none
    | some r1 =>
     match nh tree_height_r (s.1, 0, ((List.length r1.1) : Int), 0, s.2.2.1, s.2.2.2.2.1, r1.1, ()) with
     | none => none
     | some (.inl z2) =>
      some (z2.1, ())
     | some (.inr z2) =>
      some ((IntKind.i64.wrap (z2.1 + 1)), ())

def bX (tree_height_r : TT -> Option (Int × Unit)) (s : TT) : Option (Int × Unit) :=
 match oc (s.1, s.2.1, ()) with
 | none => none
 | some r0 =>
  bif (!(!decide (r0.2.1 = 0))) then
   bif (!(decide (s.2.2.2.1 = 0))) then
    match ix (r0.1, s.2.2.1, ()) with
    | none => none
    | some r1 =>
     jh tree_height_r (s.2.2.2.1, (!r1.1), s.1, s.2.2.1, r0.1, ())
   else
    jh tree_height_r (s.2.2.2.1, true, s.1, s.2.2.1, r0.1, ())
  else
   jh tree_height_r (s.2.2.2.1, true, s.1, s.2.2.1, r0.1, ())
def aW : Nat -> TT -> Option (Int × Unit)
 | 0, _ => none
 | n + 1, s => bX (aW n) s
def vY (s : TT) : Option (Int × Unit) := aW aco s
def dL (s : az × Unit) : Option (Bool × Unit) :=
 match fu (s.1.2.2.1, ()) with
 | none => none
 | some r0 =>
  bif r0.1 then
   match vY (s.1.1, s.1.2.1, ([], ([], ())), 64, ()) with
   | none => none
   | some r1 =>
    some ((decide (r1.1 > 0)), ())
  else
   some (false, ())
def cN (x_tree_Get : (az × List UInt8 × Unit) -> Option oA) (x_tree_New : (aP × Unit) -> Option (az × Int × Unit)) (x_tree_Add : (az × ag × Unit) -> Option (az × Int × Unit)) (x_tree_Height : (az × Unit) -> Option (Int × Unit)) (x_law12_small : Unit -> Option (az × Unit)) (x_tree_Scan : (az × aa × Unit) -> Option (Int × List ae × Unit)) (x_ref04_Same : TU -> Option (Bool × Unit)) (x_tree_Valid : (az × Unit) -> Option (Bool × Unit)) (s : Bool × Int × Bool × Int × Bool × az × ae × List ae × az × Unit) : Option ((Bool × Unit) ⊕ Unit) :=
 bif s.2.2.2.2.1 then
  let t0 := (Ty.eqb af s.2.2.2.2.2.2.1 (([99, 47, 120] : List UInt8), (([49] : List UInt8), (0, ()))))
  bif t0 then
   bif s.1 then
    bif decide (s.2.1 = 2) then
     bif !s.2.2.1 then
      bif decide (s.2.2.2.1 = 1) then
       match x_ref04_Same (s.2.2.2.2.2.2.2.1, ([(([99, 47, 120] : List UInt8), (([49] : List UInt8), (0, ())))] : List ae), ()) with
       | none => none
       | some r1 =>
        bif r1.1 then
         match x_tree_Valid (s.2.2.2.2.2.1, ()) with
         | none => none
         | some r2 =>
          bif r2.1 then
           match x_tree_Valid (s.2.2.2.2.2.2.2.2.1, ()) with
           | none => none
           | some r3 =>
            bif r3.1 then
             match x_tree_Height (s.2.2.2.2.2.1, ()) with
             | none => none
             | some r4 =>
              bif decide (r4.1 = 2) then
               match x_tree_Height (s.2.2.2.2.2.2.2.2.1, ()) with
               | none => none
               | some r5 =>
                bif decide (r5.1 = 1) then
                 match x_tree_Valid ((([], ()), (0, ((0, (0, (0, ()))), ()))), ()) with
                 | none => none
                 | some r6 =>
                  some (.inl ((!r6.1), ()))
                else
                 some (.inl (false, ()))
              else
               some (.inl (false, ()))
            else
             some (.inl (false, ()))
          else
           some (.inl (false, ()))
        else
         some (.inl (false, ()))
      else
       some (.inl (false, ()))
     else
      some (.inl (false, ()))
    else
     some (.inl (false, ()))
   else
    some (.inl (false, ()))
  else
   some (.inl (false, ()))
 else
  some (.inl (false, ()))
def tI (x_tree_Get : (az × List UInt8 × Unit) -> Option oA) (x_tree_New : (aP × Unit) -> Option (az × Int × Unit)) (x_tree_Add : (az × ag × Unit) -> Option (az × Int × Unit)) (x_tree_Height : (az × Unit) -> Option (Int × Unit)) (x_law12_small : Unit -> Option (az × Unit)) (x_tree_Scan : (az × aa × Unit) -> Option (Int × List ae × Unit)) (x_ref04_Same : TU -> Option (Bool × Unit)) (x_tree_Valid : (az × Unit) -> Option (Bool × Unit)) (s : Unit) : Option (Bool × Unit) :=
 match x_law12_small (()) with
 | none => none
 | some r0 =>
  match x_tree_Get (r0.1, ([99, 47, 120] : List UInt8), ()) with
  | none => none
  | some r1 =>
   match x_tree_Get (r0.1, ([97, 47, 120] : List UInt8), ()) with
   | none => none
   | some r2 =>
    match x_tree_Scan (r0.1, ([], ([], ())), ()) with
    | none => none
    | some r3 =>
     match x_tree_New ((1, (2, (1, ()))), ()) with
     | none => none
     | some r4 =>
      match x_tree_Add (r0.1, (0, ([], ([], (([], ([], ())), ([], ([], (0, ()))))))), ()) with
      | none => none
      | some r5 =>
       match x_tree_New (r0.1.2.2.1, ()) with
       | none => none
       | some r6 =>
        let t7 := decide (r1.2.2.2.1 = 0)
        bif t7 then
         let t8 := decide (r2.2.2.2.1 = 0)
         bif t8 then
          bif decide (r3.1 = 0) then
           bif decide (r4.2.1 = 120) then
            bif decide (r5.2.1 = 50) then
             match cN x_tree_Get x_tree_New x_tree_Add x_tree_Height x_law12_small x_tree_Scan x_ref04_Same x_tree_Valid (r1.2.1, r1.2.2.1, r2.2.1, r2.2.2.1, (decide (r6.2.1 = 0)), r0.1, r1.1, r3.2.1, r6.1, ()) with
             | none => none
             | some (.inl z9) =>
              some (z9.1, ())
             | some (.inr z9) =>
              none
            else
             match cN x_tree_Get x_tree_New x_tree_Add x_tree_Height x_law12_small x_tree_Scan x_ref04_Same x_tree_Valid (r1.2.1, r1.2.2.1, r2.2.1, r2.2.2.1, false, r0.1, r1.1, r3.2.1, r6.1, ()) with
             | none => none
             | some (.inl z9) =>
              some (z9.1, ())
             | some (.inr z9) =>
              none
           else
            match cN x_tree_Get x_tree_New x_tree_Add x_tree_Height x_law12_small x_tree_Scan x_ref04_Same x_tree_Valid (r1.2.1, r1.2.2.1, r2.2.1, r2.2.2.1, false, r0.1, r1.1, r3.2.1, r6.1, ()) with
            | none => none
            | some (.inl z9) =>
             some (z9.1, ())
            | some (.inr z9) =>
             none
          else
           match cN x_tree_Get x_tree_New x_tree_Add x_tree_Height x_law12_small x_tree_Scan x_ref04_Same x_tree_Valid (r1.2.1, r1.2.2.1, r2.2.1, r2.2.2.1, false, r0.1, r1.1, r3.2.1, r6.1, ()) with
           | none => none
           | some (.inl z9) =>
            some (z9.1, ())
           | some (.inr z9) =>
            none
         else
          match cN x_tree_Get x_tree_New x_tree_Add x_tree_Height x_law12_small x_tree_Scan x_ref04_Same x_tree_Valid (r1.2.1, r1.2.2.1, r2.2.1, r2.2.2.1, false, r0.1, r1.1, r3.2.1, r6.1, ()) with
          | none => none
          | some (.inl z9) =>
           some (z9.1, ())
          | some (.inr z9) =>
           none
        else
         match cN x_tree_Get x_tree_New x_tree_Add x_tree_Height x_law12_small x_tree_Scan x_ref04_Same x_tree_Valid (r1.2.1, r1.2.2.1, r2.2.1, r2.2.2.1, false, r0.1, r1.1, r3.2.1, r6.1, ()) with
         | none => none
         | some (.inl z8) =>
          some (z8.1, ())
         | some (.inr z8) =>
          none
def acv (s : Unit) : Option (Bool × Unit) := tI ajZ qt aox nH aeR xv aix dL s
def bx (s : Int × Bool × Bool × Bool × aA × Int × Int × Int × az × Unit) : Option (Tl ⊕ (Bool × Unit)) :=
 bif s.2.2.2.1 then
  some (.inr (false, ()))
 else
  some (.inl (s.1, s.2.1, s.2.2.1, s.2.2.2.2.1, s.2.2.2.2.2.1, s.2.2.2.2.2.2.1, s.2.2.2.2.2.2.2.1, s.2.2.2.2.2.2.2.2.1, ()))
def bK (s : Int × Bool × Bool × az × Unit) : Option ((Int × Bool × az × Unit) ⊕ (Bool × Unit)) :=
 bif s.2.2.1 then
  bif s.2.1 then
   match dL (s.2.2.2.1, ()) with
   | none => none
   | some r0 =>
    some (.inr (r0.1, ()))
  else
   some (.inr (false, ()))
 else
  some (.inl (s.1, s.2.1, s.2.2.2.1, ()))
def ct (s : Bool × az × Int × aP × List ae × (List (List UInt8)) × List Int × List api_Sum × List ag × List aq × Unit) : Option ((Bool × Unit) ⊕ Unit) :=
 bif decide (0 <= s.2.1.2.1) && decide (s.2.1.2.1 < (List.length s.2.2.2.2.2.2.2.2.2.1 : Int)) then
  let t0 := (List.set s.2.2.2.2.2.2.2.2.2.1 (Int.toNat s.2.1.2.1) ((List.getD s.2.2.2.2.2.2.2.2.2.1 (Int.toNat s.2.1.2.1) (false, (false, (0, (([], ([], ([], ([], ([], ()))))), ()))))).1, ((List.getD s.2.2.2.2.2.2.2.2.2.1 (Int.toNat s.2.1.2.1) (false, (false, (0, (([], ([], ([], ([], ([], ()))))), ()))))).2.1, ((List.getD s.2.2.2.2.2.2.2.2.2.1 (Int.toNat s.2.1.2.1) (false, (false, (0, (([], ([], ([], ([], ([], ()))))), ()))))).2.2.1, ((s.2.2.2.2.1, (s.2.2.2.2.2.1, (s.2.2.2.2.2.2.1, (s.2.2.2.2.2.2.2.1, (s.2.2.2.2.2.2.2.2.1, ()))))), (List.getD s.2.2.2.2.2.2.2.2.2.1 (Int.toNat s.2.1.2.1) (false, (false, (0, (([], ([], ([], ([], ([], ()))))), ()))))).2.2.2.2)))))
  bif s.1 then
   match dL (((t0, ()), (s.2.2.1, (s.2.2.2.1, ()))), ()) with
   | none => none
   | some r1 =>
    bif !r1.1 then
     match dL (s.2.1, ()) with
     | none => none
     | some r2 =>
      some (.inl (r2.1, ()))
    else
     some (.inl (false, ()))
  else
   some (.inl (false, ()))
 else none
def cr (s : Int × Bool × az × Unit) : Option ((Bool × Unit) ⊕ Unit) :=
 bif (decide ((List.length ([] : List aq) + List.length s.2.2.1.1.1) * 136 <= am)) then
  let t0 : List aq := ([] ++ s.2.2.1.1.1)
  bif decide (0 <= s.2.2.1.2.1) && decide (s.2.2.1.2.1 < (List.length t0 : Int)) then
   let t1 := (List.getD t0 (Int.toNat s.2.2.1.2.1) (false, (false, (0, (([], ([], ([], ([], ([], ()))))), ())))))
   let t2 := (decide (((Int.tmod s.1 3) : Int) = 0))
   bif t2 then
    bif (decide ((List.length ([] : List api_Sum) + List.length t1.2.2.2.1.2.2.2.1) * 32 <= am)) then
     let t3 : List api_Sum := ([] ++ t1.2.2.2.1.2.2.2.1)
     bif decide ((0 : Int) < (List.length t3 : Int)) then
      let t4 := (List.getD t3 0 ((0, (0, ())), ((0, (0, ())), ())))
      let t5 := IntKind.i64.wrap (t4.1.2.1 + 1)
      bif decide ((0 : Int) < (List.length t3 : Int)) then
       let t6 := (List.set t3 0 (((List.getD t3 0 ((0, (0, ())), ((0, (0, ())), ()))).1.1, (t5, (List.getD t3 0 ((0, (0, ())), ((0, (0, ())), ()))).1.2.2)), (List.getD t3 0 ((0, (0, ())), ((0, (0, ())), ()))).2))
       match ct (s.2.1, s.2.2.1, s.2.2.1.2.1, s.2.2.1.2.2.1, t1.2.2.2.1.1, t1.2.2.2.1.2.1, t1.2.2.2.1.2.2.1, t6, t1.2.2.2.1.2.2.2.2.1, t0, ()) with
       | none => none
       | some (.inl z7) =>
        some (.inl (z7.1, ()))
       | some (.inr z7) =>
        none
      else none
     else none
    else none
   else
    let t3 := (decide (((Int.tmod s.1 3) : Int) = 1))
    bif t3 then
     bif (decide ((List.length ([] : List (List UInt8)) + List.length t1.2.2.2.1.2.1) * 16 <= am)) then
      let t4 : List (List UInt8) := ([] ++ t1.2.2.2.1.2.1)
      bif decide ((0 : Int) < (List.length t4 : Int)) then
       match ct (s.2.1, s.2.2.1, s.2.2.1.2.1, s.2.2.1.2.2.1, t1.2.2.2.1.1, (List.set t4 0 []), t1.2.2.2.1.2.2.1, t1.2.2.2.1.2.2.2.1, t1.2.2.2.1.2.2.2.2.1, t0, ()) with
       | none => none
       | some (.inl z5) =>
        some (.inl (z5.1, ()))
       | some (.inr z5) =>
        none
      else none
     else none
    else
     bif (decide ((List.length ([] : List Int) + List.length t1.2.2.2.1.2.2.1) * 8 <= am)) then
      bif (decide ((0 : Int) < (List.length ([] ++ t1.2.2.2.1.2.2.1) : Int))) then
       let t4 := (List.set ([] ++ t1.2.2.2.1.2.2.1) 0 s.2.2.1.2.1)
       match ct (s.2.1, s.2.2.1, s.2.2.1.2.1, s.2.2.1.2.2.1, t1.2.2.2.1.1, t1.2.2.2.1.2.1, t4, t1.2.2.2.1.2.2.2.1, t1.2.2.2.1.2.2.2.2.1, t0, ()) with
       | none => none
       | some (.inl z5) =>
        some (.inl (z5.1, ()))
       | some (.inr z5) =>
        none
      else none
     else none
  else none
 else none
def bp (s : Int × Bool × aA × Unit) : Option ((Bool × Unit) ⊕ Unit) :=
 match acI (s.2.2.1, ()) with
 | none => none
 | some r0 =>
  match dL (r0.1, ()) with
  | none => none
  | some r1 =>
   bif (!(!r1.1)) then
    match nH (r0.1, ()) with
    | none => none
    | some r2 =>
     match bK (s.1, s.2.1, (decide (r2.1 < 2)), r0.1, ()) with
     | none => none
     | some (.inl z3) =>
      match cr (z3.1, z3.2.1, z3.2.2.1, ()) with
      | none => none
      | some (.inl z4) =>
       some (.inl (z4.1, ()))
      | some (.inr z4) =>
       none
     | some (.inr z3) =>
      some (.inl (z3.1, ()))
   else
    match bK (s.1, s.2.1, true, r0.1, ()) with
    | none => none
    | some (.inl z2) =>
     match cr (z2.1, z2.2.1, z2.2.2.1, ()) with
     | none => none
     | some (.inl z3) =>
      some (.inl (z3.1, ()))
     | some (.inr z3) =>
      none
    | some (.inr z2) =>
     some (.inl (z2.1, ()))
def bj (s : Int × Bool × Bool × aA × Unit) : Option ((Int × Bool × aA × Unit) ⊕ (Bool × Unit)) :=
 bif s.2.2.1 then
  some (.inr (false, ()))
 else
  some (.inl (s.1, s.2.1, s.2.2.2.1, ()))
def cj (s : Tl) : Option ((Bool × Unit) ⊕ Unit) :=
 bif s.2.2.1 then
  match xv (s.2.2.2.2.2.2.2.1, ([], ([], ())), ()) with
  | none => none
  | some r0 =>
   bif (!(!decide (r0.1 = 0))) then
    let t1 := (!decide ((((List.length r0.2.1) : Int) : Int) = 0))
    bif !t1 then
     match dL (s.2.2.2.2.2.2.2.1, ()) with
     | none => none
     | some r2 =>
      bif (!(!r2.1)) then
       match nH (s.2.2.2.2.2.2.2.1, ()) with
       | none => none
       | some r3 =>
        bif (!(!decide (r3.1 = 1))) then
         let t4 := (!(Ty.eqb ft s.2.2.2.2.2.2.2.1.2.2.1 (s.2.2.2.2.1, (s.2.2.2.2.2.1, (s.2.2.2.2.2.2.1, ())))))
         match bj (s.1, s.2.1, t4, s.2.2.2.1, ()) with
         | none => none
         | some (.inl z5) =>
          match bp (z5.1, z5.2.1, z5.2.2.1, ()) with
          | none => none
          | some (.inl z6) =>
           some (.inl (z6.1, ()))
          | some (.inr z6) =>
           none
         | some (.inr z5) =>
          some (.inl (z5.1, ()))
        else
         match bj (s.1, s.2.1, true, s.2.2.2.1, ()) with
         | none => none
         | some (.inl z4) =>
          match bp (z4.1, z4.2.1, z4.2.2.1, ()) with
          | none => none
          | some (.inl z5) =>
           some (.inl (z5.1, ()))
          | some (.inr z5) =>
           none
         | some (.inr z4) =>
          some (.inl (z4.1, ()))
      else
       match bj (s.1, s.2.1, true, s.2.2.2.1, ()) with
       | none => none
       | some (.inl z3) =>
        match bp (z3.1, z3.2.1, z3.2.2.1, ()) with
        | none => none
        | some (.inl z4) =>
         some (.inl (z4.1, ()))
        | some (.inr z4) =>
         none
       | some (.inr z3) =>
        some (.inl (z3.1, ()))
    else
     match bj (s.1, s.2.1, true, s.2.2.2.1, ()) with
     | none => none
     | some (.inl z2) =>
      match bp (z2.1, z2.2.1, z2.2.2.1, ()) with
      | none => none
      | some (.inl z3) =>
       some (.inl (z3.1, ()))
      | some (.inr z3) =>
       none
     | some (.inr z2) =>
      some (.inl (z2.1, ()))
   else
    match bj (s.1, s.2.1, true, s.2.2.2.1, ()) with
    | none => none
    | some (.inl z1) =>
     match bp (z1.1, z1.2.1, z1.2.2.1, ()) with
     | none => none
     | some (.inl z2) =>
      some (.inl (z2.1, ()))
     | some (.inr z2) =>
      none
    | some (.inr z1) =>
     some (.inl (z1.1, ()))
 else
  match bp (s.1, s.2.1, s.2.2.2.1, ()) with
  | none => none
  | some (.inl z0) =>
   some (.inl (z0.1, ()))
  | some (.inr z0) =>
   none
def bo (s : Int × Bool × Int × Bool × aA × Int × Int × Int × az × Unit) : Option ((Bool × Unit) ⊕ Unit) :=
 let t0 := (!((decide (s.2.2.1 = 0)) == s.2.2.2.1))
 bif !t0 then
  bif !s.2.2.2.1 then
   let t1 := (!decide (s.2.2.1 = 120))
   match bx (s.1, s.2.1, s.2.2.2.1, t1, s.2.2.2.2.1, s.2.2.2.2.2.1, s.2.2.2.2.2.2.1, s.2.2.2.2.2.2.2.1, s.2.2.2.2.2.2.2.2.1, ()) with
   | none => none
   | some (.inl z2) =>
    match cj (z2.1, z2.2.1, z2.2.2.1, z2.2.2.2.1, z2.2.2.2.2.1, z2.2.2.2.2.2.1, z2.2.2.2.2.2.2.1, z2.2.2.2.2.2.2.2.1, ()) with
    | none => none
    | some (.inl z3) =>
     some (.inl (z3.1, ()))
    | some (.inr z3) =>
     none
   | some (.inr z2) =>
    some (.inl (z2.1, ()))
  else
   match bx (s.1, s.2.1, s.2.2.2.1, false, s.2.2.2.2.1, s.2.2.2.2.2.1, s.2.2.2.2.2.2.1, s.2.2.2.2.2.2.2.1, s.2.2.2.2.2.2.2.2.1, ()) with
   | none => none
   | some (.inl z1) =>
    match cj (z1.1, z1.2.1, z1.2.2.1, z1.2.2.2.1, z1.2.2.2.2.1, z1.2.2.2.2.2.1, z1.2.2.2.2.2.2.1, z1.2.2.2.2.2.2.2.1, ()) with
    | none => none
    | some (.inl z2) =>
     some (.inl (z2.1, ()))
    | some (.inr z2) =>
     none
   | some (.inr z1) =>
    some (.inl (z1.1, ()))
 else
  match bx (s.1, s.2.1, s.2.2.2.1, true, s.2.2.2.2.1, s.2.2.2.2.2.1, s.2.2.2.2.2.2.1, s.2.2.2.2.2.2.2.1, s.2.2.2.2.2.2.2.2.1, ()) with
  | none => none
  | some (.inl z1) =>
   match cj (z1.1, z1.2.1, z1.2.2.1, z1.2.2.2.1, z1.2.2.2.2.1, z1.2.2.2.2.2.1, z1.2.2.2.2.2.2.1, z1.2.2.2.2.2.2.2.1, ()) with
   | none => none
   | some (.inl z2) =>
    some (.inl (z2.1, ()))
   | some (.inr z2) =>
    none
  | some (.inr z1) =>
   some (.inl (z1.1, ()))
def kO (s : aP × aA × Int × Unit) : Option (Bool × Unit) :=
 match acv (()) with
 | none => none
 | some r0 =>
  match qt (((IntKind.i64.wrap s.1.1), ((IntKind.i64.wrap s.1.2.1), ((IntKind.i64.wrap s.1.2.2.1), ()))), ()) with
  | none => none
  | some r1 =>
   let t2 := (decide (((IntKind.i64.wrap s.1.1) : Int) >= 2))
   bif t2 then
    let t3 := (decide (((IntKind.i64.wrap s.1.1) : Int) <= 64))
    bif t3 then
     let t4 := (decide (((IntKind.i64.wrap s.1.2.1) : Int) >= 2))
     bif t4 then
      let t5 := (decide (((IntKind.i64.wrap s.1.2.1) : Int) <= 16))
      bif t5 then
       let t6 := (decide (((IntKind.i64.wrap s.1.2.2.1) : Int) >= 1))
       bif t6 then
        let t7 := (decide (((IntKind.i64.wrap s.1.2.2.1) : Int) <= 64))
        match bo (s.2.2.1, r0.1, r1.2.1, t7, s.2.1, (IntKind.i64.wrap s.1.1), (IntKind.i64.wrap s.1.2.1), (IntKind.i64.wrap s.1.2.2.1), r1.1, ()) with
        | none => none
        | some (.inl z8) =>
         some (z8.1, ())
        | some (.inr z8) =>
         none
       else
        match bo (s.2.2.1, r0.1, r1.2.1, false, s.2.1, (IntKind.i64.wrap s.1.1), (IntKind.i64.wrap s.1.2.1), (IntKind.i64.wrap s.1.2.2.1), r1.1, ()) with
        | none => none
        | some (.inl z7) =>
         some (z7.1, ())
        | some (.inr z7) =>
         none
      else
       match bo (s.2.2.1, r0.1, r1.2.1, false, s.2.1, (IntKind.i64.wrap s.1.1), (IntKind.i64.wrap s.1.2.1), (IntKind.i64.wrap s.1.2.2.1), r1.1, ()) with
       | none => none
       | some (.inl z6) =>
        some (z6.1, ())
       | some (.inr z6) =>
        none
     else
      match bo (s.2.2.1, r0.1, r1.2.1, false, s.2.1, (IntKind.i64.wrap s.1.1), (IntKind.i64.wrap s.1.2.1), (IntKind.i64.wrap s.1.2.2.1), r1.1, ()) with
      | none => none
      | some (.inl z5) =>
       some (z5.1, ())
      | some (.inr z5) =>
       none
    else
     match bo (s.2.2.1, r0.1, r1.2.1, false, s.2.1, (IntKind.i64.wrap s.1.1), (IntKind.i64.wrap s.1.2.1), (IntKind.i64.wrap s.1.2.2.1), r1.1, ()) with
     | none => none
     | some (.inl z4) =>
      some (z4.1, ())
     | some (.inr z4) =>
      none
   else
    match bo (s.2.2.1, r0.1, r1.2.1, false, s.2.1, (IntKind.i64.wrap s.1.1), (IntKind.i64.wrap s.1.2.1), (IntKind.i64.wrap s.1.2.2.1), r1.1, ()) with
    | none => none
    | some (.inl z3) =>
     some (z3.1, ())
    | some (.inr z3) =>
     none
end D
