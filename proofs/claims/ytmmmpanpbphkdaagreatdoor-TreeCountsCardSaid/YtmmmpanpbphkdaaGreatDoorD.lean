/- Plain functions, by program. -/
import Derived.Test.YtmmmpanpbphkdaaGreatDoorDa
set_option linter.unusedVariables false
open Go Go.X
namespace D
def aoX (s : List Int × Int × Int × aj × api_Node × List ak × Unit) : Option ((Int × Int × aj × Unit) ⊕ (aj × api_Node × List ak × Unit)) := aP aoT s
def aoU (s : Int × List Int × Int × Int × List ak × List ak × Unit) : Option ((Int × List Int × Int × Int × List ak × List ak × Unit) ⊕ ((Int × List ak × List ak × Unit) ⊕ Unit)) :=
 bif decide (s.2.2.2.1 < s.2.2.1) then
  bif decide (0 <= s.2.2.2.1) && decide (s.2.2.2.1 < (List.length s.2.1 : Int)) then
   let t0 : Int := (List.getD s.2.1 (Int.toNat s.2.2.2.1) 0)
   bif decide (0 <= t0) && decide (t0 < (List.length s.2.2.2.2.2.1 : Int)) then
    let t1 : ak := (List.getD s.2.2.2.2.2.1 (Int.toNat t0) (false, (false, (0, (([], ([], ([], ([], ([], ()))))), ())))))
    let t2 : Int := IntKind.i64.wrap (t1.2.2.1 + 1)
    bif decide (0 <= t0) && decide (t0 < (List.length s.2.2.2.2.2.1 : Int)) then
     let t3 : List ak := (List.set s.2.2.2.2.2.1 (Int.toNat t0) ((List.getD s.2.2.2.2.2.1 (Int.toNat t0) (false, (false, (0, (([], ([], ([], ([], ([], ()))))), ()))))).1, ((List.getD s.2.2.2.2.2.1 (Int.toNat t0) (false, (false, (0, (([], ([], ([], ([], ([], ()))))), ()))))).2.1, (t2, (List.getD s.2.2.2.2.2.1 (Int.toNat t0) (false, (false, (0, (([], ([], ([], ([], ([], ()))))), ()))))).2.2.2))))
     let t4 : Int := IntKind.i64.wrap (s.2.2.2.1 + 1)
     some (.inl (s.1, s.2.1, s.2.2.1, t4, s.2.2.2.2.1, t3, ()))
    else none
   else none
  else none
 else
  some (.inr (.inl (s.1, s.2.2.2.2.1, s.2.2.2.2.2.1, ())))
def aoY (s : Int × List Int × Int × Int × List ak × List ak × Unit) : Option ((Int × List ak × List ak × Unit) ⊕ Unit) := aP aoU s
def aoW (s : Int × api_Node × List ak × List ak × Unit) : Option eA :=
 bif decide (0 <= s.1) && decide (s.1 < (List.length s.2.2.2.1 : Int)) then
  let t0 : List ak := (List.set s.2.2.2.1 (Int.toNat s.1) (true, (false, (1, (s.2.1, ())))))
  match aoY (s.1, s.2.1.2.2.1, ((List.length s.2.1.2.2.1) : Int), 0, s.2.2.1, t0, ()) with
  | none => none
  | some (.inl z1) =>
   some ((z1.2.2.1, ()), z1.1, 0, ())
  | some (.inr z1) =>
   none
 else none
def aoV (s : Int × aj × api_Node × List ak × Unit) : Option eA :=
 bif decide (s.1 >= 4096) then
  some (s.2.1, 0, 111, ())
 else
  match akx (s.2.1, ()) with
  | none => none
  | some r0 =>
   let t1 : Bool := (decide (s.1 = ((List.length r0.1) : Int)))
   bif t1 then
    bif (decide ((List.length r0.1 + List.length ([(false, (false, (0, (([], ([], ([], ([], ([], ()))))), ()))))] : List ak)) * 136 <= aw)) then
     let t2 : List ak := (r0.1 ++ ([(false, (false, (0, (([], ([], ([], ([], ([], ()))))), ()))))] : List ak))
     aoW (s.1, s.2.2.1, s.2.2.2.1, t2, ())
    else none
   else
    aoW (s.1, s.2.2.1, s.2.2.2.1, r0.1, ())

def ame (s : aj × api_Node × Unit) : Option eA :=
 match aoX (s.2.1.2.2.1, ((List.length s.2.1.2.2.1) : Int), 0, s.1, s.2.1, [], ()) with
 | none => none
 | some (.inl z0) =>
  some (z0.2.2.1, z0.1, z0.2.1, ())
 | some (.inr z0) =>
  match kl (z0.1.1, ()) with
  | none => none
  | some r1 =>
   bif decide (r1.1 < 0) then
    aoV (((List.length z0.1.1) : Int), z0.1, z0.2.1, z0.2.2.1, ())
   else
    aoV (r1.1, z0.1, z0.2.1, z0.2.2.1, ())
def auv (s : aZ × Unit) : Option (az × Int × Unit) :=
 match akC (s.1, ()) with
 | none => none
 | some r0 =>
  bif !r0.1 then
   some ((([], ()), (0, ((0, (0, (0, ()))), ()))), 120, ())
  else
   match ame (([], ()), ([], ([], ([], ([], ([], ()))))), ()) with
   | none => none
   | some r1 =>
    some ((r1.1, (r1.2.1, (s.1, ()))), r1.2.2.1, ())
def akr (s : aZ) : Option (Bool × Unit) :=
 bif decide (s.2.1 <= s.1) then
  some ((decide (s.1 <= s.2.2.1)), ())
 else
  some (false, ())
def aiG (s : ai × Unit) : Option (Bool × Unit) :=
 match akr (((List.length s.1.2.1) : Int), 1, 65535, ()) with
 | none => none
 | some r0 =>
  bif r0.1 then
   let t1 : Bool := (decide ((((List.length s.1.2.2.1) : Int) : Int) <= 64))
   bif t1 then
    match akr (s.1.2.2.2.2.2.2.1, 0, 1000000000, ()) with
    | none => none
    | some r2 =>
     some (r2.1, ())
   else
    some (false, ())
  else
   some (false, ())
def alW (s : ai × Unit) : Option (ai × Unit) :=
 some ((s.1.1, (s.1.2.1, (s.1.2.2.1, (([], ([], ())), ([], ([], (s.1.2.2.2.2.2.2.1, ()))))))), ())
def aiB (s : ai × Unit) : Option (Bool × Unit) :=
 match akr (((List.length s.1.2.1) : Int), 1, 65535, ()) with
 | none => none
 | some r0 =>
  some (r0.1, ())
def alS (s : ai × Unit) : Option (ai × Unit) :=
 some ((s.1.1, (s.1.2.1, ([], (([], ([], ())), ([], ([], (0, ()))))))), ())
def ati (s : aa × Unit) : Option (Bool × Unit) :=
 match mP (s.1, ()) with
 | none => none
 | some r0 =>
  bif !r0.1 then
   let t1 : Int := (if (((List.length s.1.1) : Int) : Int) < ((List.length s.1.2.1) : Int) then ((List.length s.1.2.1) : Int) else ((List.length s.1.1) : Int))
   some ((decide (t1 <= 65535)), ())
  else
   some (false, ())
def agd (s : ai × Unit) : Option (Bool × Unit) :=
 match ati (s.1.2.2.2.1, ()) with
 | none => none
 | some r0 =>
  some (r0.1, ())
def aiC (s : ai × Unit) : Option (ai × Unit) :=
 some ((s.1.1, ([], ([], (s.1.2.2.2.1, ([], ([], (0, ()))))))), ())
def aoj (s : aa) : Option (Bool × Unit) :=
 match akr (((List.length s.1) : Int), 1, 200, ()) with
 | none => none
 | some r0 =>
  bif r0.1 then
   match akr (((List.length s.2.1) : Int), 1, 200, ()) with
   | none => none
   | some r1 =>
    bif r1.1 then
     match kX (s.1, s.2.1, ()) with
     | none => none
     | some r2 =>
      bif !r2.1 then
       match kX (s.2.1, s.1, ()) with
       | none => none
       | some r3 =>
        some ((!r3.1), ())
      else
       some (false, ())
    else
     some (false, ())
  else
   some (false, ())
def agh (s : ai × Unit) : Option (Bool × Unit) :=
 match aoj (s.1.2.2.2.2.1, s.1.2.2.2.2.2.1, ()) with
 | none => none
 | some r0 =>
  some (r0.1, ())
def aiD (s : ai × Unit) : Option (ai × Unit) :=
 some ((s.1.1, ([], ([], (([], ([], ())), (s.1.2.2.2.2.1, (s.1.2.2.2.2.2.1, (0, ()))))))), ())
def aed (s : ai × Unit) : Option (Bool × Unit) :=
 match aoj (s.1.2.2.2.2.1, s.1.2.2.2.2.2.1, ()) with
 | none => none
 | some r0 =>
  some (r0.1, ())
def afZ (s : ai × Unit) : Option (ai × Unit) :=
 some ((s.1.1, ([], ([], (([], ([], ())), (s.1.2.2.2.2.1, (s.1.2.2.2.2.2.1, (0, ()))))))), ())
def aek (s : ai × Unit) : Option (Bool × Unit) :=
 match ati (s.1.2.2.2.1, ()) with
 | none => none
 | some r0 =>
  bif r0.1 then
   match akr (s.1.2.2.2.2.2.2.1, 0, 1000000000, ()) with
   | none => none
   | some r1 =>
    some (r1.1, ())
  else
   some (false, ())
def agj (s : ai × Unit) : Option (ai × Unit) :=
 some ((s.1.1, ([], ([], (s.1.2.2.2.1, ([], ([], (s.1.2.2.2.2.2.2.1, ()))))))), ())
def aoi (s : ai × Unit) : Option (Bool × Unit) :=
 bif decide (s.1.1 = 1) then
  match aiG (s.1, ()) with
  | none => none
  | some r0 =>
   bif r0.1 then
    match alW (s.1, ()) with
    | none => none
    | some r1 =>
     let t2 : Bool := (Ty.eqb am r1.1 s.1)
     some (t2, ())
   else
    some (false, ())
 else
  bif decide (s.1.1 = 2) then
   match aiB (s.1, ()) with
   | none => none
   | some r0 =>
    bif r0.1 then
     match alS (s.1, ()) with
     | none => none
     | some r1 =>
      let t2 : Bool := (Ty.eqb am r1.1 s.1)
      some (t2, ())
    else
     some (false, ())
  else
   bif decide (s.1.1 = 3) then
    match agd (s.1, ()) with
    | none => none
    | some r0 =>
     bif r0.1 then
      match aiC (s.1, ()) with
      | none => none
      | some r1 =>
       let t2 : Bool := (Ty.eqb am r1.1 s.1)
       some (t2, ())
     else
      some (false, ())
   else
    bif decide (s.1.1 = 4) then
     match agh (s.1, ()) with
     | none => none
     | some r0 =>
      bif r0.1 then
       match aiD (s.1, ()) with
       | none => none
       | some r1 =>
        let t2 : Bool := (Ty.eqb am r1.1 s.1)
        some (t2, ())
      else
       some (false, ())
    else
     bif decide (s.1.1 = 5) then
      match aed (s.1, ()) with
      | none => none
      | some r0 =>
       bif r0.1 then
        match afZ (s.1, ()) with
        | none => none
        | some r1 =>
         let t2 : Bool := (Ty.eqb am r1.1 s.1)
         some (t2, ())
       else
        some (false, ())
     else
      bif decide (s.1.1 = 6) then
       match aek (s.1, ()) with
       | none => none
       | some r0 =>
        bif r0.1 then
         match agj (s.1, ()) with
         | none => none
         | some r1 =>
          let t2 : Bool := (Ty.eqb am r1.1 s.1)
          some (t2, ())
        else
         some (false, ())
      else
       some (false, ())
def amf (s : List ak × List Int × List ak × Unit) : Option ((List ak × List Int × List ak × Unit) ⊕ ((List ak × List ak × Unit) ⊕ Unit)) :=
 let t0 : Bool := (decide ((((List.length s.2.1) : Int) : Int) > 0))
 bif t0 then
  let t1 : Int := (IntKind.i64.wrap (((List.length s.2.1) : Int) - 1))
  bif decide (0 <= t1) && decide (t1 < (List.length s.2.1 : Int)) then
   let t2 : Int := (List.getD s.2.1 (Int.toNat t1) 0)
   let t3 : Int := (IntKind.i64.wrap (((List.length s.2.1) : Int) - 1))
   bif decide ((0 : Int) <= t3) && decide (t3 <= (List.length s.2.1 : Int)) then
    bif decide (0 <= t2) && decide (t2 < (List.length s.2.2.1 : Int)) then
     let t4 : ak := (List.getD s.2.2.1 (Int.toNat t2) (false, (false, (0, (([], ([], ([], ([], ([], ()))))), ())))))
     let t5 : Int := IntKind.i64.wrap (t4.2.2.1 - 1)
     let t6 : List ak := (List.set s.2.2.1 (Int.toNat t2) ((List.getD s.2.2.1 (Int.toNat t2) (false, (false, (0, (([], ([], ([], ([], ([], ()))))), ()))))).1, ((List.getD s.2.2.1 (Int.toNat t2) (false, (false, (0, (([], ([], ([], ([], ([], ()))))), ()))))).2.1, (t5, (List.getD s.2.2.1 (Int.toNat t2) (false, (false, (0, (([], ([], ([], ([], ([], ()))))), ()))))).2.2.2))))
     let t7 : ak := (List.getD t6 (Int.toNat t2) (false, (false, (0, (([], ([], ([], ([], ([], ()))))), ())))))
     bif decide (t7.2.2.1 > 0) then
      some (.inl (s.1, (List.take (Int.toNat t3) s.2.1), t6, ()))
     else
      let t8 : ak := (List.getD t6 (Int.toNat t2) (false, (false, (0, (([], ([], ([], ([], ([], ()))))), ())))))
      bif (decide ((List.length (List.take (Int.toNat t3) s.2.1) + List.length t8.2.2.2.1.2.2.1) * 8 <= aw)) then
       let t9 : List Int := (List.take (Int.toNat t3) s.2.1 ++ t8.2.2.2.1.2.2.1)
       let t10 : List ak := (List.set t6 (Int.toNat t2) (false, (false, (0, (([], ([], ([], ([], ([], ()))))), ())))))
       some (.inl (s.1, t9, t10, ()))
      else none
    else none
   else none
  else none
 else
  some (.inr (.inl (s.1, s.2.2.1, ())))
def amh (s : List ak × List Int × List ak × Unit) : Option ((List ak × List ak × Unit) ⊕ Unit) := aP amf s
def aoo (s : aO) : Option aO :=
 match xS (s.1, s.2.1, ()) with
 | none => none
 | some r0 =>
  bif !r0.1 then
   some (s.1, 110, ())
  else
   match akx (s.1, ()) with
   | none => none
   | some r1 =>
    match amh ([], ([s.2.1] : List Int), r1.1, ()) with
    | none => none
    | some (.inl z2) =>
     some ((z2.2.1, ()), 0, ())
    | some (.inr z2) =>
     none
def oA (s : List ai × Unit) : Option (List ai × Unit) :=
 bif (decide (0 <= 0) && decide ((0 : Int) <= ((List.length s.1) : Int)) && decide ((((List.length s.1) : Int) : Int) <= (List.length s.1 : Int)) && decide ((((List.length s.1) : Int) : Int) = ((List.length s.1) : Int))) then
  let t0 : List ai := (List.drop 0 (List.take (Int.toNat ((List.length s.1) : Int)) s.1))
  some (t0, ())
 else none
def aus (s : az × ai × Unit) : Option (az × Int × Unit) :=
 match aoi (s.2.1, ()) with
 | none => none
 | some r0 =>
  bif !r0.1 then
   some (s.1, 50, ())
  else
   match mS (s.1.1, s.1.2.1, ()) with
   | none => none
   | some r1 =>
    bif (!decide (r1.2.1 = 0)) then
     some (s.1, r1.2.1, ())
    else
     match tl (r1.1, ()) with
     | none => none
     | some r2 =>
      bif r2.1 then
       match aoh (r1.1.1, s.2.1, ()) with
       | none => none
       | some r3 =>
        match ame (s.1.1, (r3.1, (r1.1.2.1, (r1.1.2.2.1, (r1.1.2.2.2.1, (r1.1.2.2.2.2.1, ()))))), ()) with
        | none => none
        | some r4 =>
         bif (!decide (r4.2.2.1 = 0)) then
          some (s.1, r4.2.2.1, ())
         else
          match aoo (r4.1, s.1.2.1, ()) with
          | none => none
          | some r5 =>
           bif (!decide (r5.2.1 = 0)) then
            some (s.1, r5.2.1, ())
           else
            some ((r5.1, (r4.2.1, (s.1.2.2.1, ()))), 0, ())
      else
       match oA (r1.1.2.2.2.2.1, ()) with
       | none => none
       | some r3 =>
        bif (decide (0 < List.length ([s.2.1] : List ai)) && decide ((List.length r3.1 + List.length ([s.2.1] : List ai)) * 112 <= aw)) then
         let t4 : List ai := (r3.1 ++ ([s.2.1] : List ai))
         match ame (s.1.1, (r1.1.1, (r1.1.2.1, (r1.1.2.2.1, (r1.1.2.2.2.1, (t4, ()))))), ()) with
         | none => none
         | some r5 =>
          bif (!decide (r5.2.2.1 = 0)) then
           some (s.1, r5.2.2.1, ())
          else
           match aoo (r5.1, s.1.2.1, ()) with
           | none => none
           | some r6 =>
            bif (!decide (r6.2.1 = 0)) then
             some (s.1, r6.2.1, ())
            else
             some ((r6.1, (r5.2.1, (s.1.2.2.1, ()))), 0, ())
        else none
def ajf (s : List ae × List ae × Int × Unit) : Option ((List ae × List ae × Int × Unit) ⊕ ((Bool × Unit) ⊕ Unit)) :=
 let t0 : Bool := (decide (s.2.2.1 < ((List.length s.1) : Int)))
 bif t0 then
  bif decide (0 <= s.2.2.1) && decide (s.2.2.1 < (List.length s.1 : Int)) then
   let t1 : ae := (List.getD s.1 (Int.toNat s.2.2.1) ([], ([], (0, ()))))
   bif decide (0 <= s.2.2.1) && decide (s.2.2.1 < (List.length s.2.1 : Int)) then
    let t2 : ae := (List.getD s.2.1 (Int.toNat s.2.2.1) ([], ([], (0, ()))))
    let t3 : Bool := (!(Ty.eqb af t1 t2))
    bif t3 then
     some (.inr (.inl (false, ())))
    else
     some (.inl (s.1, s.2.1, (IntKind.i64.wrap (s.2.2.1 + 1)), ()))
   else none
  else none
 else
  some (.inr (.inr (())))
def ajh (s : List ae × List ae × Int × Unit) : Option ((Bool × Unit) ⊕ Unit) := aP ajf s
def ak3 (s : List ae × List ae × Unit) : Option (Bool × Unit) :=
 let t0 : Bool := (!decide ((((List.length s.1) : Int) : Int) = ((List.length s.2.1) : Int)))
 bif t0 then
  some (false, ())
 else
  match ajh (s.1, s.2.1, 0, ()) with
  | none => none
  | some (.inl z1) =>
   some (z1.1, ())
  | some (.inr z1) =>
   some (true, ())
def aca (s : Int × Int × List fi × Unit) : Option ((Int × Int × List fi × Unit) ⊕ ((Bool × Unit) ⊕ Unit)) :=
 bif decide (s.2.1 < s.1) then
  bif decide (0 <= s.2.1) && decide (s.2.1 < (List.length s.2.2.1 : Int)) then
   let t0 : fi := (List.getD s.2.2.1 (Int.toNat s.2.1) (0, (0, ())))
   bif (!(decide (t0.1 < 0))) then
    bif (!(decide (t0.1 > t0.2.1))) then
     let t1 : Bool := decide (t0.2.1 > 1000000000000000)
     bif t1 then
      some (.inr (.inl (false, ())))
     else
      some (.inl (s.1, (IntKind.i64.wrap (s.2.1 + 1)), s.2.2.1, ()))
    else
     some (.inr (.inl (false, ())))
   else
    some (.inr (.inl (false, ())))
  else none
 else
  some (.inr (.inr (())))
def acd (s : Int × Int × List fi × Unit) : Option ((Bool × Unit) ⊕ Unit) := aP aca s
def aiO (s : api_Sum × Unit) : Option (Bool × Unit) :=
 let t0 : Int := ((List.length ([s.1.1, s.1.2.1] : List fi)) : Int)
 match acd (t0, 0, ([s.1.1, s.1.2.1] : List fi), ()) with
 | none => none
 | some (.inl z1) =>
  some (z1.1, ())
 | some (.inr z1) =>
  some (true, ())
def agU (s : List ae × Int × Unit) : Option ((List ae × Int × Unit) ⊕ ((Bool × Unit) ⊕ Unit)) :=
 let t0 : Bool := (decide (s.2.1 < ((List.length s.1) : Int)))
 bif t0 then
  bif (decide (0 <= (IntKind.i64.wrap (s.2.1 - 1))) && decide (((IntKind.i64.wrap (s.2.1 - 1)) : Int) < (List.length s.1 : Int))) then
   let t1 : ae := (List.getD s.1 (Int.toNat (IntKind.i64.wrap (s.2.1 - 1))) ([], ([], (0, ()))))
   bif decide (0 <= s.2.1) && decide (s.2.1 < (List.length s.1 : Int)) then
    let t2 : ae := (List.getD s.1 (Int.toNat s.2.1) ([], ([], (0, ()))))
    bif (!(Op.bytesLess t1.1 t2.1)) then
     some (.inr (.inl (false, ())))
    else
     some (.inl (s.1, (IntKind.i64.wrap (s.2.1 + 1)), ()))
   else none
  else none
 else
  some (.inr (.inr (())))
def agW (s : List ae × Int × Unit) : Option ((Bool × Unit) ⊕ Unit) := aP agU s
def apo (s : List ae × Unit) : Option (Bool × Unit) :=
 match agW (s.1, 1, ()) with
 | none => none
 | some (.inl z0) =>
  some (z0.1, ())
 | some (.inr z0) =>
  some (true, ())
def aiN (s : ae × Unit) : Option (Bool × Unit) :=
 let t0 : Bool := (decide ((((List.length s.1.1) : Int) : Int) >= 1))
 bif t0 then
  let t1 : Bool := (decide ((((List.length s.1.1) : Int) : Int) <= 65535))
  bif t1 then
   let t2 : Bool := (decide ((((List.length s.1.2.1) : Int) : Int) <= 64))
   bif t2 then
    bif decide (s.1.2.2.1 >= 0) then
     let t3 : Bool := decide (s.1.2.2.1 <= 1000000000)
     some (t3, ())
    else
     some (false, ())
   else
    some (false, ())
  else
   some (false, ())
 else
  some (false, ())
def alX (s : ae × aa × Unit) : Option (Bool × aa × Unit) :=
 match aiN (s.1, ()) with
 | none => none
 | some r0 =>
  bif (!(!r0.1)) then
   match uJ (s.2.1, s.1.1, ()) with
   | none => none
   | some r1 =>
    some ((!r1.1), s.2.1, ())
  else
   some (true, s.2.1, ())
def fW (s : List ae × Int × Int × aa × Unit) : Option ((List ae × Int × Int × aa × Unit) ⊕ ((Int × aa × Unit) ⊕ (aa × Unit))) :=
 bif decide (s.2.2.1 < s.2.1) then
  bif decide (0 <= s.2.2.1) && decide (s.2.2.1 < (List.length s.1 : Int)) then
   let t0 : ae := (List.getD s.1 (Int.toNat s.2.2.1) ([], ([], (0, ()))))
   match alX (t0, s.2.2.2.1, ()) with
   | none => none
   | some r1 =>
    bif r1.1 then
     some (.inr (.inl (s.2.2.1, r1.2.1, ())))
    else
     some (.inl (s.1, s.2.1, (IntKind.i64.wrap (s.2.2.1 + 1)), r1.2.1, ()))
  else none
 else
  some (.inr (.inr (s.2.2.2.1, ())))
def fY (s : List ae × Int × Int × aa × Unit) : Option ((Int × aa × Unit) ⊕ (aa × Unit)) := aP fW s
def iE (s : List ae × aa × Unit) : Option (Int × aa × Unit) :=
 match fY (s.1, ((List.length s.1) : Int), 0, s.2.1, ()) with
 | none => none
 | some (.inl z0) =>
  some (z0.1, z0.2.1, ())
 | some (.inr z0) =>
  some ((-1 : Int), z0.1, ())
def iA (s : List ae × aa × Unit) : Option (Bool × aa × Unit) :=
 match iE (s.1, s.2.1, ()) with
 | none => none
 | some r0 =>
  some ((decide (r0.1 >= 0)), r0.2.1, ())
def aiF (s : ai × Unit) : Option (List aa × Unit) :=
 some ([], ())
def aiA (s : ai × Unit) : Option (List aa × Unit) :=
 some ([], ())
def agc (s : ai × Unit) : Option (List aa × Unit) :=
 some ([], ())
def agf (s : ai × Unit) : Option (List aa × Unit) :=
 match dD (s.1.2.2.2.2.1, ()) with
 | none => none
 | some r0 =>
  some (([r0.1] : List aa), ())
def aec (s : ai × Unit) : Option (List aa × Unit) :=
 match dD (s.1.2.2.2.2.1, ()) with
 | none => none
 | some r0 =>
  some (([r0.1] : List aa), ())
def aej (s : ai × Unit) : Option (List aa × Unit) :=
 some (([s.1.2.2.2.1] : List aa), ())
def awW (s : ai × Unit) : Option (List aa × Unit) :=
 bif decide (s.1.1 = 1) then
  match aiF (s.1, ()) with
  | none => none
  | some r0 =>
   some (r0.1, ())
 else
  bif decide (s.1.1 = 2) then
   match aiA (s.1, ()) with
   | none => none
   | some r0 =>
    some (r0.1, ())
  else
   bif decide (s.1.1 = 3) then
    match agc (s.1, ()) with
    | none => none
    | some r0 =>
     some (r0.1, ())
   else
    bif decide (s.1.1 = 4) then
     match agf (s.1, ()) with
     | none => none
     | some r0 =>
      some (r0.1, ())
    else
     bif decide (s.1.1 = 5) then
      match aec (s.1, ()) with
      | none => none
      | some r0 =>
       some (r0.1, ())
     else
      bif decide (s.1.1 = 6) then
       match aej (s.1, ()) with
       | none => none
       | some r0 =>
        some (r0.1, ())
      else
       some ([], ())
def apk (s : aa × aa × Unit) : Option (Bool × Unit) :=
 match mP (s.2.1, ()) with
 | none => none
 | some r0 =>
  bif !r0.1 then
   match uJ (s.1, s.2.1.1, ()) with
   | none => none
   | some r1 =>
    bif r1.1 then
     match qy (s.1.2.1, s.2.1.2.1, ()) with
     | none => none
     | some r2 =>
      some ((decide (r2.1 >= 0)), ())
    else
     some (false, ())
  else
   some (true, ())
def acS (s : aa × aa × Unit) : Option (Bool × aa × Unit) :=
 match apk (s.2.1, s.1, ()) with
 | none => none
 | some r0 =>
  some ((!r0.1), s.2.1, ())
def gi (s : List aa × Int × Int × aa × Unit) : Option ((List aa × Int × Int × aa × Unit) ⊕ ((Int × aa × Unit) ⊕ (aa × Unit))) :=
 bif decide (s.2.2.1 < s.2.1) then
  bif decide (0 <= s.2.2.1) && decide (s.2.2.1 < (List.length s.1 : Int)) then
   let t0 : aa := (List.getD s.1 (Int.toNat s.2.2.1) ([], ([], ())))
   match acS (t0, s.2.2.2.1, ()) with
   | none => none
   | some r1 =>
    bif r1.1 then
     some (.inr (.inl (s.2.2.1, r1.2.1, ())))
    else
     some (.inl (s.1, s.2.1, (IntKind.i64.wrap (s.2.2.1 + 1)), r1.2.1, ()))
  else none
 else
  some (.inr (.inr (s.2.2.2.1, ())))
def gk (s : List aa × Int × Int × aa × Unit) : Option ((Int × aa × Unit) ⊕ (aa × Unit)) := aP gi s
def iN (s : List aa × aa × Unit) : Option (Int × aa × Unit) :=
 match gk (s.1, ((List.length s.1) : Int), 0, s.2.1, ()) with
 | none => none
 | some (.inl z0) =>
  some (z0.1, z0.2.1, ())
 | some (.inr z0) =>
  some ((-1 : Int), z0.1, ())
def fU (s : List aa × aa × Unit) : Option (Bool × aa × Unit) :=
 match iN (s.1, s.2.1, ()) with
 | none => none
 | some r0 =>
  some ((decide (r0.1 >= 0)), r0.2.1, ())
def agi (s : ai × Unit) : Option (List aa × Unit) :=
 match agG (s.1.2.1, ()) with
 | none => none
 | some r0 =>
  some (([r0.1] : List aa), ())
def aga (s : ai × Unit) : Option (List aa × Unit) :=
 match agG (s.1.2.1, ()) with
 | none => none
 | some r0 =>
  some (([r0.1] : List aa), ())
def aef (s : ai × Unit) : Option (List aa × Unit) :=
 some (([s.1.2.2.2.1] : List aa), ())
def aeg (s : ai × Unit) : Option (List aa × Unit) :=
 match dD (s.1.2.2.2.2.1, ()) with
 | none => none
 | some r0 =>
  match dD (s.1.2.2.2.2.2.1, ()) with
  | none => none
  | some r1 =>
   some (([r0.1, r1.1] : List aa), ())
def abP (s : ai × Unit) : Option (List aa × Unit) :=
 match dD (s.1.2.2.2.2.2.1, ()) with
 | none => none
 | some r0 =>
  some (([r0.1] : List aa), ())
def abY (s : ai × Unit) : Option (List aa × Unit) :=
 some (([s.1.2.2.2.1] : List aa), ())
def ath (s : ai × Unit) : Option (List aa × Unit) :=
 bif decide (s.1.1 = 1) then
  match agi (s.1, ()) with
  | none => none
  | some r0 =>
   some (r0.1, ())
 else
  bif decide (s.1.1 = 2) then
   match aga (s.1, ()) with
   | none => none
   | some r0 =>
    some (r0.1, ())
  else
   bif decide (s.1.1 = 3) then
    match aef (s.1, ()) with
    | none => none
    | some r0 =>
     some (r0.1, ())
   else
    bif decide (s.1.1 = 4) then
     match aeg (s.1, ()) with
     | none => none
     | some r0 =>
      some (r0.1, ())
    else
     bif decide (s.1.1 = 5) then
      match abP (s.1, ()) with
      | none => none
      | some r0 =>
       some (r0.1, ())
     else
      bif decide (s.1.1 = 6) then
       match abY (s.1, ()) with
       | none => none
       | some r0 =>
        some (r0.1, ())
      else
       some ([], ())
def gl (s : Int × Int × List aa × aa × Unit) : Option ((Int × Int × List aa × aa × Unit) ⊕ ((Int × List aa × aa × Unit) ⊕ (List aa × aa × Unit))) :=
 bif decide (s.2.1 < s.1) then
  bif decide (0 <= s.2.1) && decide (s.2.1 < (List.length s.2.2.1 : Int)) then
   let t0 : aa := (List.getD s.2.2.1 (Int.toNat s.2.1) ([], ([], ())))
   match acS (t0, s.2.2.2.1, ()) with
   | none => none
   | some r1 =>
    bif r1.1 then
     some (.inr (.inl (s.2.1, s.2.2.1, r1.2.1, ())))
    else
     some (.inl (s.1, (IntKind.i64.wrap (s.2.1 + 1)), s.2.2.1, r1.2.1, ()))
  else none
 else
  some (.inr (.inr (s.2.2.1, s.2.2.2.1, ())))
def gn (s : Int × Int × List aa × aa × Unit) : Option ((Int × List aa × aa × Unit) ⊕ (List aa × aa × Unit)) := aP gl s
def iO (s : List aa × aa × Unit) : Option (Int × List aa × aa × Unit) :=
 match gn (((List.length s.1) : Int), 0, s.1, s.2.1, ()) with
 | none => none
 | some (.inl z0) =>
  some (z0.1, z0.2.1, z0.2.2.1, ())
 | some (.inr z0) =>
  some ((-1 : Int), z0.1, z0.2.1, ())
def fV (s : List aa × aa × Unit) : Option (Bool × List aa × aa × Unit) :=
 match iO (s.1, s.2.1, ()) with
 | none => none
 | some r0 =>
  some ((decide (r0.1 >= 0)), r0.2.1, r0.2.2.1, ())
def alY (s : ai × aa × Unit) : Option (Bool × aa × Unit) :=
 match aoi (s.1, ()) with
 | none => none
 | some r0 =>
  bif (!(!r0.1)) then
   match awW (s.1, ()) with
   | none => none
   | some r1 =>
    match fU (r1.1, s.2.1, ()) with
    | none => none
    | some r2 =>
     bif !r2.1 then
      match ath (s.1, ()) with
      | none => none
      | some r3 =>
       match fV (r3.1, r2.2.1, ()) with
       | none => none
       | some r4 =>
        some (r4.1, r4.2.2.1, ())
     else
      some (true, r2.2.1, ())
  else
   some (true, s.2.1, ())
def ju (s : List ai × Int × Int × aa × Unit) : Option ((List ai × Int × Int × aa × Unit) ⊕ ((Int × aa × Unit) ⊕ (aa × Unit))) :=
 bif decide (s.2.2.1 < s.2.1) then
  bif decide (0 <= s.2.2.1) && decide (s.2.2.1 < (List.length s.1 : Int)) then
   let t0 : ai := (List.getD s.1 (Int.toNat s.2.2.1) (0, ([], ([], (([], ([], ())), ([], ([], (0, ()))))))))
   match alY (t0, s.2.2.2.1, ()) with
   | none => none
   | some r1 =>
    bif r1.1 then
     some (.inr (.inl (s.2.2.1, r1.2.1, ())))
    else
     some (.inl (s.1, s.2.1, (IntKind.i64.wrap (s.2.2.1 + 1)), r1.2.1, ()))
  else none
 else
  some (.inr (.inr (s.2.2.2.1, ())))
def jx (s : List ai × Int × Int × aa × Unit) : Option ((Int × aa × Unit) ⊕ (aa × Unit)) := aP ju s
def kS (s : List ai × aa × Unit) : Option (Int × aa × Unit) :=
 match jx (s.1, ((List.length s.1) : Int), 0, s.2.1, ()) with
 | none => none
 | some (.inl z0) =>
  some (z0.1, z0.2.1, ())
 | some (.inr z0) =>
  some ((-1 : Int), z0.1, ())
def jr (s : List ai × aa × Unit) : Option (Bool × aa × Unit) :=
 match kS (s.1, s.2.1, ()) with
 | none => none
 | some r0 =>
  some ((decide (r0.1 >= 0)), r0.2.1, ())
def aiJ (s : List UInt8 × (List (List UInt8)) × Int × Int × api_Node × aa × Unit) : Option ((List UInt8 × (List (List UInt8)) × Int × Int × api_Node × aa × Unit) ⊕ ((Bool × Unit) ⊕ (api_Node × aa × Unit))) :=
 bif decide (s.2.2.2.1 < s.2.2.1) then
  bif decide (0 <= s.2.2.2.1) && decide (s.2.2.2.1 < (List.length s.2.1 : Int)) then
   let t0 : List UInt8 := (List.getD s.2.1 (Int.toNat s.2.2.2.1) [])
   let t1 : Bool := (Op.bytesLess t0 s.1 || decide ((t0 : List UInt8) = s.1))
   bif !t1 then
    let t2 : Bool := (!decide ((s.2.2.2.2.2.1.2.1 : List UInt8) = []))
    bif t2 then
     bif (!(Op.bytesLess t0 s.2.2.2.2.2.1.2.1)) then
      some (.inr (.inl (false, ())))
     else
      let t3 : Int := IntKind.i64.wrap (s.2.2.2.1 + 1)
      some (.inl (t0, s.2.1, s.2.2.1, t3, s.2.2.2.2.1, s.2.2.2.2.2.1, ()))
    else
     let t3 : Int := IntKind.i64.wrap (s.2.2.2.1 + 1)
     some (.inl (t0, s.2.1, s.2.2.1, t3, s.2.2.2.2.1, s.2.2.2.2.2.1, ()))
   else
    some (.inr (.inl (false, ())))
  else none
 else
  some (.inr (.inr (s.2.2.2.2.1, s.2.2.2.2.2.1, ())))
def aiL (s : List UInt8 × (List (List UInt8)) × Int × Int × api_Node × aa × Unit) : Option ((Bool × Unit) ⊕ (api_Node × aa × Unit)) := aP aiJ s
def aiK (s : List Int × Int × Int × api_Node × aa × Unit) : Option ((List Int × Int × Int × api_Node × aa × Unit) ⊕ ((Bool × Unit) ⊕ (api_Node × aa × Unit))) :=
 bif decide (s.2.2.1 < s.2.1) then
  bif decide (0 <= s.2.2.1) && decide (s.2.2.1 < (List.length s.1 : Int)) then
   let t0 : Int := (List.getD s.1 (Int.toNat s.2.2.1) 0)
   bif (!(decide (t0 < 0))) then
    bif (!(decide (t0 >= 4096))) then
     bif decide (0 <= s.2.2.1) && decide (s.2.2.1 < (List.length s.2.2.2.1.2.2.2.1 : Int)) then
      let t1 : api_Sum := (List.getD s.2.2.2.1.2.2.2.1 (Int.toNat s.2.2.1) ((0, (0, ())), ((0, (0, ())), ())))
      match aiO (t1, ()) with
      | none => none
      | some r2 =>
       bif !r2.1 then
        some (.inr (.inl (false, ())))
       else
        some (.inl (s.1, s.2.1, (IntKind.i64.wrap (s.2.2.1 + 1)), s.2.2.2.1, s.2.2.2.2.1, ()))
     else none
    else
     some (.inr (.inl (false, ())))
   else
    some (.inr (.inl (false, ())))
  else none
 else
  some (.inr (.inr (s.2.2.2.1, s.2.2.2.2.1, ())))
def aiM (s : List Int × Int × Int × api_Node × aa × Unit) : Option ((Bool × Unit) ⊕ (api_Node × aa × Unit)) := aP aiK s
def aaP (s : Bool × api_Node × aa × Unit) : Option (Bool × Unit) :=
 bif s.1 then
  some (false, ())
 else
  match aiL (s.2.2.1.1, s.2.1.2.1, ((List.length s.2.1.2.1) : Int), 0, s.2.1, s.2.2.1, ()) with
  | none => none
  | some (.inl z0) =>
   some (z0.1, ())
  | some (.inr z0) =>
   match aiM (z0.1.2.2.1, ((List.length z0.1.2.2.1) : Int), 0, z0.1, z0.2.1, ()) with
   | none => none
   | some (.inl z1) =>
    some (z1.1, ())
   | some (.inr z1) =>
    match jr (z1.1.2.2.2.2.1, z1.2.1, ()) with
    | none => none
    | some r2 =>
     some ((!r2.1), ())

def atj (s : api_Node × aa × Unit) : Option (Bool × Unit) :=
 let t0 : Bool := (decide ((((List.length s.1.2.2.1) : Int) : Int) = 0))
 bif t0 then
  let t1 : Int := (IntKind.i64.wrap (((List.length s.1.2.1) : Int) + ((List.length s.1.2.2.2.1) : Int)))
  let t2 : Int := (IntKind.i64.wrap (t1 + ((List.length s.1.2.2.2.2.1) : Int)))
  bif decide (t2 = 0) then
   match apo (s.1.1, ()) with
   | none => none
   | some r3 =>
    bif r3.1 then
     match iA (s.1.1, s.2.1, ()) with
     | none => none
     | some r4 =>
      some ((!r4.1), ())
    else
     some (false, ())
  else
   some (false, ())
 else
  let t1 : Bool := (decide ((((List.length s.1.1) : Int) : Int) > 0))
  bif !t1 then
   let t2 : Bool := (!decide ((((List.length s.1.2.2.2.1) : Int) : Int) = ((List.length s.1.2.2.1) : Int)))
   bif !t2 then
    let t3 : Int := (IntKind.i64.wrap (((List.length s.1.2.2.1) : Int) - 1))
    let t4 : Bool := (!decide ((((List.length s.1.2.1) : Int) : Int) = t3))
    aaP (t4, s.1, s.2.1, ())
   else
    aaP (true, s.1, s.2.1, ())
  else
   aaP (true, s.1, s.2.1, ())
def vv (s : Int × Int × Int × Int × Int × Int × Unit) : Option (Int × Int × Int × Int × Unit) :=
 let t0 : Int := (if ((IntKind.i64.wrap (s.2.2.1 + s.1)) : Int) < 0 then 0 else (IntKind.i64.wrap (s.2.2.1 + s.1)))
 let t1 : Int := (if (1000000000000000 : Int) < t0 then 1000000000000000 else t0)
 let t2 : Int := (if (1000000000000000 : Int) < (IntKind.i64.wrap (s.2.2.2.1 + s.2.1)) then 1000000000000000 else (IntKind.i64.wrap (s.2.2.2.1 + s.2.1)))
 some (t1, t2, s.2.2.2.2.1, s.2.2.2.2.2.1, ())
def nk (s : Int × Int × Int × Int × Int × Int × Unit) : Option (Int × Int × Int × Int × Unit) :=
 let t0 : Int := (if ((IntKind.i64.wrap (s.2.2.2.2.1 + s.1)) : Int) < 0 then 0 else (IntKind.i64.wrap (s.2.2.2.2.1 + s.1)))
 let t1 : Int := (if (1000000000000000 : Int) < t0 then 1000000000000000 else t0)
 let t2 : Int := IntKind.i64.wrap (s.2.2.2.2.2.1 + s.2.1)
 let t3 : Int := (if (1000000000000000 : Int) < t2 then 1000000000000000 else t2)
 some (s.2.2.1, s.2.2.2.1, t1, t3, ())
def gF (s : au) : Option (Int × Unit) := some ((fun a c => Lib.indexByte a c.toNat.toUInt8) s.1 s.2.1, ())
def aam (s : au) : Option (Int × Unit) :=
 match gF (s.1, s.2.1, ()) with
 | none => none
 | some r0 =>
  some (r0.1, ())
def uL (s : Int × Unit) : Option (Bool × Unit) :=
 bif decide ((0 : Int) <= s.1) then
  bif decide (s.1 < 55296) then
   some (true, ())
  else
   bif decide ((57343 : Int) < s.1) then
    bif decide (s.1 <= 1114111) then
     some (true, ())
    else
     some (false, ())
   else
    some (false, ())
 else
  bif decide ((57343 : Int) < s.1) then
   bif decide (s.1 <= 1114111) then
    some (true, ())
   else
    some (false, ())
  else
   some (false, ())
def w9 (s : au) : Option (au ⊕ ((Int × Unit) ⊕ Unit)) :=
 bif decide (s.2.1 < (List.length s.1 : Int)) then
  let t0 : Bool := (decide (((xe s.1 s.2.1).1 : Int) = 65533))
  bif t0 then
   some (.inr (.inl (s.2.1, ())))
  else
   some (.inl (s.1, (s.2.1 + (xe s.1 s.2.1).2), ()))
 else
  some (.inr (.inr (())))
def wC (s : au) : Option ((Int × Unit) ⊕ Unit) := aP w9 s
def wB (s : List UInt8 × Int × Bool × Unit) : Option (Int × Unit) :=
 bif s.2.2.1 then
  match aam (s.1, (IntKind.u8.wrap s.2.1), ()) with
  | none => none
  | some r0 =>
   some (r0.1, ())
 else
  bif decide (s.2.1 = 65533) then
   match wC (s.1, 0, ()) with
   | none => none
   | some (.inl z0) =>
    some (z0.1, ())
   | some (.inr z0) =>
    some ((-1 : Int), ())
  else
   match uL (s.2.1, ()) with
   | none => none
   | some r0 =>
    bif !r0.1 then
     some ((-1 : Int), ())
    else none

def oC (s : au) : Option (Int × Unit) :=
 bif decide ((0 : Int) <= s.2.1) then
  wB (s.1, s.2.1, (decide (s.2.1 < 128)), ())
 else
  wB (s.1, s.2.1, false, ())
def qF (s : Int × Unit) : Option (Bool × Unit) :=
 some ((decide (s.1 > 8)), ())
def uT (s : ae) : Option (ae ⊕ ((Int × Unit) ⊕ Unit)) :=
 bif decide (s.2.2.1 < (List.length s.2.1 : Int)) then
  match oC (s.1, (xe s.2.1 s.2.2.1).1, ()) with
  | none => none
  | some r0 =>
   bif decide (r0.1 >= 0) then
    some (.inr (.inl (s.2.2.1, ())))
   else
    some (.inl (s.1, s.2.1, (s.2.2.1 + (xe s.2.1 s.2.2.1).2), ()))
 else
  some (.inr (.inr (())))
def uV (s : ae) : Option ((Int × Unit) ⊕ Unit) := aP uT s
def sE (s : aa) : Option (Int × Unit) :=
 let t0 : Bool := decide ((s.2.1 : List UInt8) = [])
 bif t0 then
  some ((-1 : Int), ())
 else
  let t1 : Bool := (decide ((((List.length s.2.1) : Int) : Int) = 1))
  bif t1 then
   bif decide ((0 : Int) < (List.length s.2.1 : Int)) then
    let t2 : Int := (IntKind.i32.wrap ((List.getD s.2.1 0 0).toNat : Int))
    bif decide (t2 >= 128) then
     match oC (s.1, 65533, ()) with
     | none => none
     | some r3 =>
      some (r3.1, ())
    else
     match oC (s.1, t2, ()) with
     | none => none
     | some r3 =>
      some (r3.1, ())
   else none
  else
   match qF (((List.length s.1) : Int), ()) with
   | none => none
   | some r2 =>
    bif r2.1 then
     none
    else
     match uV (s.2.1, s.1, 0, ()) with
     | none => none
     | some (.inl z3) =>
      some (z3.1, ())
     | some (.inr z3) =>
      some ((-1 : Int), ())
def acm (s : aa) : Option (Int × Unit) := orE (sE s) (al5 s)
def agq (s : List UInt8 × List UInt8 × Int × Int × List UInt8 × Unit) : Option (List UInt8 × Int × List UInt8 × List UInt8 × Int × Int × List UInt8 × Unit) :=
 match acm (s.1, ([1, 2, 3] : List UInt8), ()) with
 | none => none
 | some r0 =>
  bif decide (r0.1 < 0) then
   some ([], 0, s.1, s.2.1, s.2.2.1, s.2.2.2.1, s.2.2.2.2.1, ())
  else
   bif decide ((0 : Int) <= r0.1) && decide (r0.1 <= (List.length s.1 : Int)) then
    let t1 : List UInt8 := (List.drop 0 (List.take (Int.toNat r0.1) s.1))
    bif decide (0 <= r0.1) && decide (r0.1 < (List.length s.1 : Int)) then
     let t2 : Int := ((List.getD s.1 (Int.toNat r0.1) 0).toNat : Int)
     bif (decide (0 <= (IntKind.i64.wrap (r0.1 + 1))) && decide (((IntKind.i64.wrap (r0.1 + 1)) : Int) <= (List.length s.1 : Int)) && decide (((List.length s.1 : Int) : Int) <= (List.length s.1 : Int))) then
      let t3 : List UInt8 := (List.drop (Int.toNat (IntKind.i64.wrap (r0.1 + 1))) (List.take (Int.toNat (List.length s.1 : Int)) s.1))
      some (t1, t2, t3, s.2.1, s.2.2.1, s.2.2.2.1, s.2.2.2.2.1, ())
     else none
    else none
   else none
def yZ (s : Int × Bool × List UInt8 × List UInt8 × Int × Int × List UInt8 × Unit) : Option (List UInt8 × List UInt8 × Int × Int × List UInt8 × Unit) :=
 bif s.2.1 then
  bif decide ((0 : Int) < (List.length s.2.2.1 : Int)) then
   let t0 : Int := IntKind.i64.wrap ((List.getD s.2.2.1 0 0).toNat : Int)
   let t1 : Int := (IntKind.i64.wrap (t0 * 2 ^ (min (Int.toNat 8) IntKind.i64.bits)))
   bif decide ((1 : Int) < (List.length s.2.2.1 : Int)) then
    let t2 : Int := ((List.getD s.2.2.1 (Int.toNat 1) 0).toNat : Int)
    let t3 : Int := (IntKind.i64.wrap ((BitVec.ofInt IntKind.i64.bits t1 ||| BitVec.ofInt IntKind.i64.bits (IntKind.i64.wrap t2)).toNat : Int))
    some (s.2.2.1, s.2.2.2.1, s.2.2.2.2.1, t3, s.2.2.2.2.2.2.1, ())
   else none
  else none
 else
  bif decide (s.1 = 3) then
   some (s.2.2.1, s.2.2.2.1, s.2.2.2.2.1, s.2.2.2.2.2.1, s.2.2.1, ())
  else
   some (s.2.2.1, s.2.2.2.1, s.2.2.2.2.1, s.2.2.2.2.2.1, s.2.2.2.2.2.2.1, ())
def yY (s : Int × Bool × List UInt8 × List UInt8 × Int × Int × List UInt8 × Unit) : Option (List UInt8 × List UInt8 × Int × Int × List UInt8 × Unit) :=
 bif s.2.1 then
  some (s.2.2.1, s.2.2.2.1, 4, s.2.2.2.2.2.1, s.2.2.2.2.2.2.1, ())
 else
  bif decide (s.1 = 2) then
   let t0 : Bool := (decide ((((List.length s.2.2.1) : Int) : Int) = 2))
   yZ (s.1, t0, s.2.2.1, s.2.2.2.1, s.2.2.2.2.1, s.2.2.2.2.2.1, s.2.2.2.2.2.2.1, ())
  else
   yZ (s.1, false, s.2.2.1, s.2.2.2.1, s.2.2.2.2.1, s.2.2.2.2.2.1, s.2.2.2.2.2.2.1, ())

def aem (s : List UInt8 × List UInt8 × Int × Int × List UInt8 × Unit) : Option (List UInt8 × List UInt8 × Int × Int × List UInt8 × Unit) :=
 match oB (s.1, ([6] : List UInt8), ()) with
 | none => none
 | some r0 =>
  match agq (r0.1, s.2.1, s.2.2.1, s.2.2.2.1, s.2.2.2.2.1, ()) with
  | none => none
  | some r1 =>
   bif r0.2.1 then
    yY (r1.2.1, (decide (r1.2.1 = 1)), r1.2.2.1, r1.1, (IntKind.i64.wrap r1.2.1), r1.2.2.2.2.2.1, r1.2.2.2.2.2.2.1, ())
   else
    yY (r1.2.1, false, r1.2.2.1, r1.1, (IntKind.i64.wrap r1.2.1), r1.2.2.2.2.2.1, r1.2.2.2.2.2.2.1, ())
def m8 (s : List UInt8 × List UInt8 × Int × Bool × Unit) : Option (Int × Unit) :=
 bif s.2.2.2.1 then
  some (0, ())
 else
  bif decide (s.2.2.1 = 1) then
   bif decide ((0 : Int) < (List.length s.2.1 : Int)) then
    match gF (s.1, ((List.getD s.2.1 0 0).toNat : Int), ()) with
    | none => none
    | some r0 =>
     some (r0.1, ())
   else none
  else
   let t0 : Bool := (decide (s.2.2.1 >= ((List.length s.1) : Int)))
   bif t0 then
    some ((-1 : Int), ())
   else none

def pn (s : aa) : Option (Int × Unit) :=
 let t0 : Bool := (decide ((((List.length s.2.1) : Int) : Int) = 0))
 bif !t0 then
  m8 (s.1, s.2.1, ((List.length s.2.1) : Int), (decide ((s.2.1 : List UInt8) = s.1)), ())
 else
  m8 (s.1, s.2.1, ((List.length s.2.1) : Int), true, ())
def rB (s : aa) : Option (List UInt8 × List UInt8 × Bool × Unit) :=
 match pn (s.1, s.2.1, ()) with
 | none => none
 | some r0 =>
  bif decide (r0.1 >= 0) then
   bif decide ((0 : Int) <= r0.1) && decide (r0.1 <= (List.length s.1 : Int)) then
    let t1 : List UInt8 := (List.drop 0 (List.take (Int.toNat r0.1) s.1))
    let t2 : Int := (IntKind.i64.wrap (r0.1 + ((List.length s.2.1) : Int)))
    bif (decide (0 <= t2) && decide (t2 <= (List.length s.1 : Int)) && decide (((List.length s.1 : Int) : Int) <= (List.length s.1 : Int))) then
     let t3 : List UInt8 := (List.drop (Int.toNat t2) (List.take (Int.toNat (List.length s.1 : Int)) s.1))
     some (t1, t3, true, ())
    else none
   else none
  else
   some (s.1, [], false, ())
def apl (s : aa) : Option (List UInt8 × List UInt8 × Bool × Unit) :=
 match rB (s.1, s.2.1, ()) with
 | none => none
 | some r0 =>
  some (r0.1, r0.2.1, r0.2.2.1, ())
def aiT (s : Int × Unit) : Option (Bool × Unit) :=
 bif (!(decide (s.1 < 33))) then
  bif (!(decide (s.1 > 126))) then
   some ((decide (s.1 = 47)), ())
  else
   some (true, ())
 else
  some (true, ())
def wD (s : Bool × List UInt8 × Int × Unit) : Option ((Bool × List UInt8 × Int × Unit) ⊕ ((Int × Unit) ⊕ Unit)) :=
 bif decide (s.2.2.1 < (List.length s.2.1 : Int)) then
  match aiT ((xe s.2.1 s.2.2.1).1, ()) with
  | none => none
  | some r0 =>
   bif (r0.1 == s.1) then
    some (.inr (.inl (s.2.2.1, ())))
   else
    some (.inl (s.1, s.2.1, (s.2.2.1 + (xe s.2.1 s.2.2.1).2), ()))
 else
  some (.inr (.inr (())))
def wF (s : Bool × List UInt8 × Int × Unit) : Option ((Int × Unit) ⊕ Unit) := aP wD s
def aao (s : List UInt8 × Bool × Unit) : Option (Int × Unit) :=
 match wF (s.2.1, s.1, 0, ()) with
 | none => none
 | some (.inl z0) =>
  some (z0.1, ())
 | some (.inr z0) =>
  some ((-1 : Int), ())
def aan (s : List UInt8 × Unit) : Option (Int × Unit) :=
 match aao (s.1, true, ()) with
 | none => none
 | some r0 =>
  some (r0.1, ())
def ago (s : List UInt8 × Unit) : Option (Bool × Unit) :=
 let t0 : Bool := decide ((s.1 : List UInt8) = [])
 bif !t0 then
  let t1 : Bool := (decide ((((List.length s.1) : Int) : Int) > 12))
  bif !t1 then
   let t2 : Bool := decide ((s.1 : List UInt8) = ([46] : List UInt8))
   bif !t2 then
    let t3 : Bool := decide ((s.1 : List UInt8) = ([46, 46] : List UInt8))
    bif t3 then
     some (false, ())
    else
     match aan (s.1, ()) with
     | none => none
     | some r4 =>
      some ((decide (r4.1 < 0)), ())
   else
    some (false, ())
  else
   some (false, ())
 else
  some (false, ())
def aiP (s : List UInt8 × Unit) : Option ((List UInt8 × Unit) ⊕ ((Bool × Unit) ⊕ Unit)) :=
 let t0 : Bool := (!decide ((s.1 : List UInt8) = []))
 bif t0 then
  match apl (s.1, ([47] : List UInt8), ()) with
  | none => none
  | some r1 =>
   bif (!(!r1.2.2.1)) then
    match ago (r1.1, ()) with
    | none => none
    | some r2 =>
     bif !r2.1 then
      some (.inr (.inl (false, ())))
     else
      some (.inl (r1.2.1, ()))
   else
    some (.inr (.inl (false, ())))
 else
  some (.inr (.inr (())))
def aiR (s : List UInt8 × Unit) : Option ((Bool × Unit) ⊕ Unit) := aP aiP s
def akv (s : List UInt8 × Unit) : Option (Bool × Unit) :=
 match aiR (s.1, ()) with
 | none => none
 | some (.inl z0) =>
  some (z0.1, ())
 | some (.inr z0) =>
  some (true, ())
def oD (s : List UInt8 × Int × Bool × Unit) : Option (au ⊕ ((List UInt8 × Unit) ⊕ Unit)) :=
 bif s.2.2.1 then
  let t0 : Int := (IntKind.i64.wrap (((List.length s.1) : Int) - 1))
  bif decide ((0 : Int) <= t0) && decide (t0 <= (List.length s.1 : Int)) then
   let t1 : List UInt8 := (List.drop 0 (List.take (Int.toNat t0) s.1))
   some (.inl (t1, s.2.1, ()))
  else none
 else
  some (.inr (.inl (s.1, ())))

def rO (s : au) : Option (au ⊕ ((List UInt8 × Unit) ⊕ Unit)) :=
 let t0 : Bool := (decide ((((List.length s.1) : Int) : Int) > 0))
 bif t0 then
  let t1 : Int := (IntKind.i64.wrap (((List.length s.1) : Int) - 1))
  bif decide (0 <= t1) && decide (t1 < (List.length s.1 : Int)) then
   let t2 : Int := ((List.getD s.1 (Int.toNat t1) 0).toNat : Int)
   oD (s.1, s.2.1, (decide (t2 = s.2.1)), ())
  else none
 else
  oD (s.1, s.2.1, false, ())
def rQ (s : au) : Option ((List UInt8 × Unit) ⊕ Unit) := aP rO s
def uW (s : au) : Option (List UInt8 × Unit) :=
 match rQ (s.1, s.2.1, ()) with
 | none => none
 | some (.inl z0) =>
  some (z0.1, ())
 | some (.inr z0) =>
  none
def pI (s : List UInt8 × Int × Bool × Unit) : Option (au ⊕ ((List UInt8 × Unit) ⊕ Unit)) :=
 bif s.2.2.1 then
  bif (decide ((1 : Int) <= (List.length s.1 : Int)) && decide (((List.length s.1 : Int) : Int) <= (List.length s.1 : Int))) then
   let t0 : List UInt8 := (List.drop (Int.toNat 1) (List.take (Int.toNat (List.length s.1 : Int)) s.1))
   some (.inl (t0, s.2.1, ()))
  else none
 else
  some (.inr (.inl (s.1, ())))

def tc (s : au) : Option (au ⊕ ((List UInt8 × Unit) ⊕ Unit)) :=
 let t0 : Bool := (decide ((((List.length s.1) : Int) : Int) > 0))
 bif t0 then
  bif decide ((0 : Int) < (List.length s.1 : Int)) then
   let t1 : Bool := (decide ((((List.getD s.1 0 0).toNat : Int) : Int) = s.2.1))
   pI (s.1, s.2.1, t1, ())
  else none
 else
  pI (s.1, s.2.1, false, ())
def te (s : au) : Option ((List UInt8 × Unit) ⊕ Unit) := aP tc s
def wG (s : au) : Option (List UInt8 × Unit) :=
 match te (s.1, s.2.1, ()) with
 | none => none
 | some (.inl z0) =>
  some (z0.1, ())
 | some (.inr z0) =>
  none
def aex (s : List UInt8 × List UInt8 × Bool × Unit) : Option (List UInt8 × Unit) :=
 bif s.2.2.1 then
  bif decide ((0 : Int) < (List.length s.2.1 : Int)) then
   match uW (s.1, ((List.getD s.2.1 0 0).toNat : Int), ()) with
   | none => none
   | some r0 =>
    bif decide ((0 : Int) < (List.length s.2.1 : Int)) then
     match wG (r0.1, ((List.getD s.2.1 0 0).toNat : Int), ()) with
     | none => none
     | some r1 =>
      some (r1.1, ())
    else none
  else none
 else none
def aew (s : List UInt8 × List UInt8 × Bool × Unit) : Option (List UInt8 × Unit) :=
 bif s.2.2.1 then
  some (s.1, ())
 else
  let t0 : Bool := (decide ((((List.length s.2.1) : Int) : Int) = 1))
  bif t0 then
   bif decide ((0 : Int) < (List.length s.2.1 : Int)) then
    let t1 : Bool := (decide ((((List.getD s.2.1 0 0).toNat : Int) : Int) < 128))
    aex (s.1, s.2.1, t1, ())
   else none
  else
   aex (s.1, s.2.1, false, ())

def amA (s : aa) : Option (List UInt8 × Unit) :=
 let t0 : Bool := decide ((s.1 : List UInt8) = [])
 bif !t0 then
  let t1 : Bool := decide ((s.2.1 : List UInt8) = [])
  aew (s.1, s.2.1, t1, ())
 else
  aew (s.1, s.2.1, true, ())
def ut (s : List UInt8 × Bool × Unit) : Option (Bool × Unit) :=
 bif s.2.1 then
  some (false, ())
 else
  bif decide ((9 : Int) <= (List.length s.1 : Int)) then
   let t0 : List UInt8 := (List.drop (Int.toNat 1) (List.take (Int.toNat 9) s.1))
   match amA (t0, ([48, 49, 50, 51, 52, 53, 54, 55, 56, 57, 97, 98, 99, 100, 101, 102] : List UInt8), ()) with
   | none => none
   | some r1 =>
    let t2 : Bool := decide ((r1.1 : List UInt8) = [])
    some (t2, ())
  else none

def aoR (s : List UInt8 × Unit) : Option (Bool × Unit) :=
 let t0 : Bool := (!decide ((((List.length s.1) : Int) : Int) = 10))
 bif !t0 then
  bif decide ((0 : Int) < (List.length s.1 : Int)) then
   let t1 : Bool := (!decide ((((List.getD s.1 0 0).toNat : Int) : Int) = 5))
   bif !t1 then
    bif decide ((1 : Int) < (List.length s.1 : Int)) then
     let t2 : Int := ((List.getD s.1 (Int.toNat 1) 0).toNat : Int)
     bif (!(decide (t2 > 55))) then
      bif decide ((9 : Int) < (List.length s.1 : Int)) then
       let t3 : Int := ((List.getD s.1 (Int.toNat 9) 0).toNat : Int)
       ut (s.1, (!decide (t3 = 47)), ())
      else none
     else
      ut (s.1, true, ())
    else none
   else
    ut (s.1, true, ())
  else none
 else
  ut (s.1, true, ())
def gI (s : Bool × bO × Unit) : Option (Unit ⊕ au) :=
 bif s.1 then
  bif decide (List.length ([6] : List UInt8) + List.length s.2.1.1 <= aw) then
   bif (decide (List.length (([6] : List UInt8) ++ s.2.1.1) + List.length ([1] : List UInt8) <= aw)) then
    let t0 : List UInt8 := ((([6] : List UInt8) ++ s.2.1.1) ++ ([1] : List UInt8))
    some (.inr (t0, 0, ()))
   else none
  else none
 else
  some (.inl (()))
def ew (s : Bool × bO × List UInt8 × Int × Int × List UInt8 × Unit) : Option (Unit ⊕ au) :=
 bif s.1 then
  bif decide (List.length s.2.1.1 + List.length ([3] : List UInt8) <= aw) then
   bif (decide (List.length (s.2.1.1 ++ ([3] : List UInt8)) + List.length s.2.1.2.2.2.1 <= aw)) then
    let t0 : List UInt8 := ((s.2.1.1 ++ ([3] : List UInt8)) ++ s.2.1.2.2.2.1)
    some (.inr (t0, 0, ()))
   else none
  else none
 else
  bif decide (s.2.1.2.1 = 4) then
   let t0 : Bool := (Ty.eqb aE s.2.1 (s.2.2.1, (s.2.2.2.1, (s.2.2.2.2.1, (s.2.2.2.2.2.1, ())))))
   match gI (t0, s.2.1, ()) with
   | none => none
   | some (.inl z1) =>
    some (.inl (()))
   | some (.inr z1) =>
    some (.inr (z1.1, z1.2.1, ()))
  else
   match gI (false, s.2.1, ()) with
   | none => none
   | some (.inl z0) =>
    some (.inl (()))
   | some (.inr z0) =>
    some (.inr (z0.1, z0.2.1, ()))
def dg (s : Bool × bO × List UInt8 × Int × Int × List UInt8 × Unit) : Option (Unit ⊕ au) :=
 bif s.1 then
  let t0 : Int := (Int.fdiv s.2.1.2.2.1 (2 ^ (min (Int.toNat 8) IntKind.i64.bits)))
  let t1 : List UInt8 := (w5 ([2, (IntKind.u8.wrap t0), (IntKind.u8.wrap s.2.1.2.2.1)] : List Int))
  bif decide (List.length s.2.1.1 + List.length t1 <= aw) then
   some (.inr ((s.2.1.1 ++ t1), 0, ()))
  else none
 else
  bif decide (s.2.1.2.1 = 3) then
   let t0 : Bool := decide (s.2.1.2.2.1 = 0)
   bif t0 then
    match ago (s.2.1.2.2.2.1, ()) with
    | none => none
    | some r1 =>
     match ew (r1.1, s.2.1, s.2.2.1, s.2.2.2.1, s.2.2.2.2.1, s.2.2.2.2.2.1, ()) with
     | none => none
     | some (.inl z2) =>
      some (.inl (()))
     | some (.inr z2) =>
      some (.inr (z2.1, z2.2.1, ()))
   else
    match ew (false, s.2.1, s.2.2.1, s.2.2.2.1, s.2.2.2.2.1, s.2.2.2.2.2.1, ()) with
    | none => none
    | some (.inl z1) =>
     some (.inl (()))
    | some (.inr z1) =>
     some (.inr (z1.1, z1.2.1, ()))
  else
   match ew (false, s.2.1, s.2.2.1, s.2.2.2.1, s.2.2.2.2.1, s.2.2.2.2.2.1, ()) with
   | none => none
   | some (.inl z0) =>
    some (.inl (()))
   | some (.inr z0) =>
    some (.inr (z0.1, z0.2.1, ()))
def gH (s : Bool × bO × List UInt8 × Int × Int × List UInt8 × Unit) : Option (Unit ⊕ au) :=
 bif s.1 then
  bif decide (List.length s.2.1.1 + List.length ([1] : List UInt8) <= aw) then
   some (.inr ((s.2.1.1 ++ ([1] : List UInt8)), 0, ()))
  else none
 else
  bif decide (s.2.1.2.1 = 2) then
   let t0 : Bool := decide ((s.2.1.2.2.2.1 : List UInt8) = [])
   bif t0 then
    let t1 : Bool := decide (s.2.1.2.2.1 >= 0)
    bif t1 then
     let t2 : Bool := decide (s.2.1.2.2.1 <= 60000)
     match dg (t2, s.2.1, s.2.2.1, s.2.2.2.1, s.2.2.2.2.1, s.2.2.2.2.2.1, ()) with
     | none => none
     | some (.inl z3) =>
      some (.inl (()))
     | some (.inr z3) =>
      some (.inr (z3.1, z3.2.1, ()))
    else
     match dg (false, s.2.1, s.2.2.1, s.2.2.2.1, s.2.2.2.2.1, s.2.2.2.2.2.1, ()) with
     | none => none
     | some (.inl z2) =>
      some (.inl (()))
     | some (.inr z2) =>
      some (.inr (z2.1, z2.2.1, ()))
   else
    match dg (false, s.2.1, s.2.2.1, s.2.2.2.1, s.2.2.2.2.1, s.2.2.2.2.2.1, ()) with
    | none => none
    | some (.inl z1) =>
     some (.inl (()))
    | some (.inr z1) =>
     some (.inr (z1.1, z1.2.1, ()))
  else
   match dg (false, s.2.1, s.2.2.1, s.2.2.2.1, s.2.2.2.2.1, s.2.2.2.2.2.1, ()) with
   | none => none
   | some (.inl z0) =>
    some (.inl (()))
   | some (.inr z0) =>
    some (.inr (z0.1, z0.2.1, ()))
def ez (s : Bool × bO × List UInt8 × Int × Int × List UInt8 × Unit) : Option (Unit ⊕ au) :=
 bif s.1 then
  bif decide (s.2.1.2.1 = 1) then
   let t0 : Bool := (Ty.eqb aE s.2.1 (s.2.2.1, (s.2.2.2.1, (s.2.2.2.2.1, (s.2.2.2.2.2.1, ())))))
   match gH (t0, s.2.1, s.2.2.1, s.2.2.2.1, s.2.2.2.2.1, s.2.2.2.2.2.1, ()) with
   | none => none
   | some (.inl z1) =>
    some (.inl (()))
   | some (.inr z1) =>
    some (.inr (z1.1, z1.2.1, ()))
  else
   match gH (false, s.2.1, s.2.2.1, s.2.2.2.1, s.2.2.2.2.1, s.2.2.2.2.2.1, ()) with
   | none => none
   | some (.inl z0) =>
    some (.inl (()))
   | some (.inr z0) =>
    some (.inr (z0.1, z0.2.1, ()))
 else
  some (.inl (()))
def a0q (s : bO × Unit) : Option au :=
 match akv (s.1.1, ()) with
 | none => none
 | some r0 =>
  bif !r0.1 then
   match aoR (s.1.1, ()) with
   | none => none
   | some r1 =>
    bif r1.1 then
     match ez ((!decide (s.1.2.1 = 4)), s.1, s.1.1, s.1.2.1, 0, [], ()) with
     | none => none
     | some (.inl z2) =>
      some ([], 12, ())
     | some (.inr z2) =>
      some (z2.1, z2.2.1, ())
    else
     match ez (false, s.1, s.1.1, s.1.2.1, 0, [], ()) with
     | none => none
     | some (.inl z2) =>
      some ([], 12, ())
     | some (.inr z2) =>
      some (z2.1, z2.2.1, ())
  else
   match ez (true, s.1, s.1.1, s.1.2.1, 0, [], ()) with
   | none => none
   | some (.inl z1) =>
    some ([], 12, ())
   | some (.inr z1) =>
    some (z1.1, z1.2.1, ())
def acV (s : List UInt8 × Unit) : Option (bO × Int × Unit) :=
 match aem (s.1, [], 0, 0, [], ()) with
 | none => none
 | some r0 =>
  match a0q ((r0.2.1, (r0.2.2.1, (r0.2.2.2.1, (r0.2.2.2.2.1, ())))), ()) with
  | none => none
  | some r1 =>
   bif (!(!decide (r1.2.1 = 0))) then
    bif (!decide ((r1.1 : List UInt8) = s.1)) then
     some (([], (0, (0, ([], ())))), 12, ())
    else
     some ((r0.2.1, (r0.2.2.1, (r0.2.2.2.1, (r0.2.2.2.2.1, ())))), 0, ())
   else
    some (([], (0, (0, ([], ())))), 12, ())
def acR (s : Int × Int × Int × Int × Int × Int × Unit) : Option (Int × Int × Int × Int × Unit) :=
 match vv (s.1, s.2.1, s.2.2.1, s.2.2.2.1, s.2.2.2.2.1, s.2.2.2.2.2.1, ()) with
 | none => none
 | some r0 =>
  match nk (s.1, s.2.1, r0.1, r0.2.1, r0.2.2.1, r0.2.2.2.1, ()) with
  | none => none
  | some r1 =>
   some (r1.1, r1.2.1, r1.2.2.1, r1.2.2.2.1, ())
def ahp (s : List UInt8 × Unit) : Option (Int × Unit) :=
 let t0 : Bool := decide ((s.1 : List UInt8) = [])
 bif t0 then
  some (0, ())
 else
  bif decide ((0 : Int) < (List.length s.1 : Int)) then
   let t1 : Bool := (decide ((((List.getD s.1 0 0).toNat : Int) : Int) = 6))
   bif t1 then
    some (6, ())
   else
    match akv (s.1, ()) with
    | none => none
    | some r2 =>
     bif r2.1 then
      some (1, ())
     else
      bif decide (List.length s.1 + List.length ([1] : List UInt8) <= aw) then
       match acV ((s.1 ++ ([1] : List UInt8)), ()) with
       | none => none
       | some r3 =>
        bif decide (r3.2.1 = 0) then
         bif decide ((r3.1.1 : List UInt8) = s.1) then
          some (5, ())
         else
          some (0, ())
        else
         some (0, ())
      else none
  else none
def atn (s : aa) : Option (Bool × Unit) :=
 match ahp (s.1, ()) with
 | none => none
 | some r0 =>
  bif (!decide (r0.1 = 0)) then
   match ahp (s.1, ()) with
   | none => none
   | some r1 =>
    match ahp (s.2.1, ()) with
    | none => none
    | some r2 =>
     some ((decide (r1.1 = r2.1)), ())
  else
   some (false, ())
def alE (s : ae × Unit) : Option vp :=
 match acV (s.1.1, ()) with
 | none => none
 | some r0 =>
  bif (!decide (r0.2.1 = 0)) then
   some ((0, (0, ())), ())
  else
   bif decide (r0.1.2.1 = 1) then
    some ((1, (0, ())), ())
   else
    bif decide (r0.1.2.1 = 4) then
     some ((0, (0, ())), ())
    else
     some ((0, (((List.length s.1.2.1) : Int), ())), ())
def afL (s : List ae × Int × Int × Int × Int × Int × Int × Unit) : Option ((List ae × Int × Int × Int × Int × Int × Int × Unit) ⊕ ((Int × Int × Int × Int × Unit) ⊕ Unit)) :=
 bif decide (s.2.2.1 < s.2.1) then
  bif decide (0 <= s.2.2.1) && decide (s.2.2.1 < (List.length s.1 : Int)) then
   let t0 : ae := (List.getD s.1 (Int.toNat s.2.2.1) ([], ([], (0, ()))))
   match alE (t0, ()) with
   | none => none
   | some r1 =>
    let t2 : Int := IntKind.i64.wrap (s.2.2.2.2.2.1 + r1.1.1)
    let t3 : Int := IntKind.i64.wrap (s.2.2.2.2.2.2.1 + r1.1.2.1)
    some (.inl (s.1, s.2.1, (IntKind.i64.wrap (s.2.2.1 + 1)), s.2.2.2.1, s.2.2.2.2.1, t2, t3, ()))
  else none
 else
  some (.inr (.inl (s.2.2.2.1, s.2.2.2.2.1, s.2.2.2.2.2.1, s.2.2.2.2.2.2.1, ())))
def afN (s : List ae × Int × Int × Int × Int × Int × Int × Unit) : Option ((Int × Int × Int × Int × Unit) ⊕ Unit) := aP afL s
def aoG (s : List ae × Unit) : Option vp :=
 match afN (s.1, ((List.length s.1) : Int), 0, 0, 0, 0, 0, ()) with
 | none => none
 | some (.inl z0) =>
  some ((z0.2.2.1, (z0.2.2.2.1, ())), ())
 | some (.inr z0) =>
  none
def aoL (s : List api_Sum × Int × Int × api_Node × Int × Int × Int × Int × Int × Int × Int × Int × Unit) : Option ((List api_Sum × Int × Int × api_Node × Int × Int × Int × Int × Int × Int × Int × Int × Unit) ⊕ ((api_Node × Int × Int × Int × Int × Int × Int × Int × Int × Unit) ⊕ Unit)) :=
 bif decide (s.2.2.1 < s.2.1) then
  bif decide (0 <= s.2.2.1) && decide (s.2.2.1 < (List.length s.1 : Int)) then
   let t0 : api_Sum := (List.getD s.1 (Int.toNat s.2.2.1) ((0, (0, ())), ((0, (0, ())), ())))
   match vv (t0.1.1, t0.1.2.1, s.2.2.2.2.2.2.2.2.1, s.2.2.2.2.2.2.2.2.2.1, s.2.2.2.2.2.2.2.2.2.2.1, s.2.2.2.2.2.2.2.2.2.2.2.1, ()) with
   | none => none
   | some r1 =>
    match nk (t0.2.1.1, t0.2.1.2.1, r1.1, r1.2.1, r1.2.2.1, r1.2.2.2.1, ()) with
    | none => none
    | some r2 =>
     some (.inl (s.1, s.2.1, (IntKind.i64.wrap (s.2.2.1 + 1)), s.2.2.2.1, s.2.2.2.2.1, s.2.2.2.2.2.1, s.2.2.2.2.2.2.1, s.2.2.2.2.2.2.2.1, r2.1, r2.2.1, r2.2.2.1, r2.2.2.2.1, ()))
  else none
 else
  some (.inr (.inl (s.2.2.2.1, s.2.2.2.2.1, s.2.2.2.2.2.1, s.2.2.2.2.2.2.1, s.2.2.2.2.2.2.2.1, s.2.2.2.2.2.2.2.2.1, s.2.2.2.2.2.2.2.2.2.1, s.2.2.2.2.2.2.2.2.2.2.1, s.2.2.2.2.2.2.2.2.2.2.2.1, ())))
def aoN (s : List api_Sum × Int × Int × api_Node × Int × Int × Int × Int × Int × Int × Int × Int × Unit) : Option ((api_Node × Int × Int × Int × Int × Int × Int × Int × Int × Unit) ⊕ Unit) := aP aoL s
def agm (s : List ai × Int × Int × Bool × Int × Int × Int × Int × Int × Int × Int × Int × ai × Unit) : Option ((List ai × Int × Int × Int × Int × Int × Int × Int × Int × Int × Int × Unit) ⊕ ((Int × Int × Int × Int × Int × Int × Int × Int × Unit) ⊕ Unit)) :=
 bif s.2.2.2.1 then
  match vv ((-1 : Int), 0, s.2.2.2.2.2.2.2.2.1, s.2.2.2.2.2.2.2.2.2.1, s.2.2.2.2.2.2.2.2.2.2.1, s.2.2.2.2.2.2.2.2.2.2.2.1, ()) with
  | none => none
  | some r0 =>
   some (.inl (s.1, s.2.1, (IntKind.i64.wrap (s.2.2.1 + 1)), s.2.2.2.2.1, s.2.2.2.2.2.1, s.2.2.2.2.2.2.1, s.2.2.2.2.2.2.2.1, r0.1, r0.2.1, r0.2.2.1, r0.2.2.2.1, ()))
 else
  let t0 : Bool := decide (s.2.2.2.2.2.2.2.2.2.2.2.2.1.1 = 2)
  bif t0 then
   match nk ((-64 : Int), 0, s.2.2.2.2.2.2.2.2.1, s.2.2.2.2.2.2.2.2.2.1, s.2.2.2.2.2.2.2.2.2.2.1, s.2.2.2.2.2.2.2.2.2.2.2.1, ()) with
   | none => none
   | some r1 =>
    some (.inl (s.1, s.2.1, (IntKind.i64.wrap (s.2.2.1 + 1)), s.2.2.2.2.1, s.2.2.2.2.2.1, s.2.2.2.2.2.2.1, s.2.2.2.2.2.2.2.1, r1.1, r1.2.1, r1.2.2.1, r1.2.2.2.1, ()))
  else
   let t1 : Bool := decide (s.2.2.2.2.2.2.2.2.2.2.2.2.1.1 = 3)
   bif t1 then
    match acR ((-1000000000000000 : Int), 0, s.2.2.2.2.2.2.2.2.1, s.2.2.2.2.2.2.2.2.2.1, s.2.2.2.2.2.2.2.2.2.2.1, s.2.2.2.2.2.2.2.2.2.2.2.1, ()) with
    | none => none
    | some r2 =>
     some (.inl (s.1, s.2.1, (IntKind.i64.wrap (s.2.2.1 + 1)), s.2.2.2.2.1, s.2.2.2.2.2.1, s.2.2.2.2.2.2.1, s.2.2.2.2.2.2.2.1, r2.1, r2.2.1, r2.2.2.1, r2.2.2.2.1, ()))
   else
    let t2 : Bool := decide (s.2.2.2.2.2.2.2.2.2.2.2.2.1.1 = 6)
    bif t2 then
     some (.inl (s.1, s.2.1, (IntKind.i64.wrap (s.2.2.1 + 1)), s.2.2.2.2.1, s.2.2.2.2.2.1, s.2.2.2.2.2.2.1, s.2.2.2.2.2.2.2.1, s.2.2.2.2.2.2.2.2.1, s.2.2.2.2.2.2.2.2.2.1, s.2.2.2.2.2.2.2.2.2.2.1, s.2.2.2.2.2.2.2.2.2.2.2.1, ()))
    else
     match atn (s.2.2.2.2.2.2.2.2.2.2.2.2.1.2.2.2.2.1, s.2.2.2.2.2.2.2.2.2.2.2.2.1.2.2.2.2.2.1, ()) with
     | none => none
     | some r3 =>
      bif !r3.1 then
       match acR ((-1000000000000000 : Int), 1000000000000000, s.2.2.2.2.2.2.2.2.1, s.2.2.2.2.2.2.2.2.2.1, s.2.2.2.2.2.2.2.2.2.2.1, s.2.2.2.2.2.2.2.2.2.2.2.1, ()) with
       | none => none
       | some r4 =>
        some (.inl (s.1, s.2.1, (IntKind.i64.wrap (s.2.2.1 + 1)), s.2.2.2.2.1, s.2.2.2.2.2.1, s.2.2.2.2.2.2.1, s.2.2.2.2.2.2.2.1, r4.1, r4.2.1, r4.2.2.1, r4.2.2.2.1, ()))
      else
       let t4 : Bool := decide (s.2.2.2.2.2.2.2.2.2.2.2.2.1.1 = 5)
       bif t4 then
        match vv ((-1000000000000000 : Int), s.2.2.2.2.2.2.2.2.2.1, s.2.2.2.2.2.2.2.2.1, s.2.2.2.2.2.2.2.2.2.1, s.2.2.2.2.2.2.2.2.2.2.1, s.2.2.2.2.2.2.2.2.2.2.2.1, ()) with
        | none => none
        | some r5 =>
         match nk ((-1000000000000000 : Int), r5.2.2.2.1, r5.1, r5.2.1, r5.2.2.1, r5.2.2.2.1, ()) with
         | none => none
         | some r6 =>
          some (.inl (s.1, s.2.1, (IntKind.i64.wrap (s.2.2.1 + 1)), s.2.2.2.2.1, s.2.2.2.2.2.1, s.2.2.2.2.2.2.1, s.2.2.2.2.2.2.2.1, r6.1, r6.2.1, r6.2.2.1, r6.2.2.2.1, ()))
       else
        match acR ((-1000000000000000 : Int), 0, s.2.2.2.2.2.2.2.2.1, s.2.2.2.2.2.2.2.2.2.1, s.2.2.2.2.2.2.2.2.2.2.1, s.2.2.2.2.2.2.2.2.2.2.2.1, ()) with
        | none => none
        | some r5 =>
         some (.inl (s.1, s.2.1, (IntKind.i64.wrap (s.2.2.1 + 1)), s.2.2.2.2.1, s.2.2.2.2.2.1, s.2.2.2.2.2.2.1, s.2.2.2.2.2.2.2.1, r5.1, r5.2.1, r5.2.2.1, r5.2.2.2.1, ()))
def agl (s : Bool × List ai × Int × Int × Bool × Int × Int × Int × Int × Int × Int × Int × Int × ai × Unit) : Option ((List ai × Int × Int × Int × Int × Int × Int × Int × Int × Int × Int × Unit) ⊕ ((Int × Int × Int × Int × Int × Int × Int × Int × Unit) ⊕ Unit)) :=
 bif s.2.2.2.2.1 then
  match vv (0, 1, s.2.2.2.2.2.2.2.2.2.1, s.2.2.2.2.2.2.2.2.2.2.1, s.2.2.2.2.2.2.2.2.2.2.2.1, s.2.2.2.2.2.2.2.2.2.2.2.2.1, ()) with
  | none => none
  | some r0 =>
   let t1 : Int := IntKind.i64.wrap (s.2.2.2.1 + 1)
   some (.inl (s.2.1, s.2.2.1, t1, s.2.2.2.2.2.1, s.2.2.2.2.2.2.1, s.2.2.2.2.2.2.2.1, s.2.2.2.2.2.2.2.2.1, r0.1, r0.2.1, r0.2.2.1, r0.2.2.2.1, ()))
 else
  let t0 : Bool := decide (s.2.2.2.2.2.2.2.2.2.2.2.2.2.1.1 = 1)
  bif t0 then
   let t1 : Int := ((List.length s.2.2.2.2.2.2.2.2.2.2.2.2.2.1.2.2.1) : Int)
   match nk ((-64 : Int), t1, s.2.2.2.2.2.2.2.2.2.1, s.2.2.2.2.2.2.2.2.2.2.1, s.2.2.2.2.2.2.2.2.2.2.2.1, s.2.2.2.2.2.2.2.2.2.2.2.2.1, ()) with
   | none => none
   | some r2 =>
    let t3 : Int := IntKind.i64.wrap (s.2.2.2.1 + 1)
    some (.inl (s.2.1, s.2.2.1, t3, s.2.2.2.2.2.1, s.2.2.2.2.2.2.1, s.2.2.2.2.2.2.2.1, s.2.2.2.2.2.2.2.2.1, r2.1, r2.2.1, r2.2.2.1, r2.2.2.2.1, ()))
  else
   let t1 : Bool := decide (s.2.2.2.2.2.2.2.2.2.2.2.2.2.1.1 = 2)
   bif t1 then
    agm (s.2.1, s.2.2.1, s.2.2.2.1, s.1, s.2.2.2.2.2.1, s.2.2.2.2.2.2.1, s.2.2.2.2.2.2.2.1, s.2.2.2.2.2.2.2.2.1, s.2.2.2.2.2.2.2.2.2.1, s.2.2.2.2.2.2.2.2.2.2.1, s.2.2.2.2.2.2.2.2.2.2.2.1, s.2.2.2.2.2.2.2.2.2.2.2.2.1, s.2.2.2.2.2.2.2.2.2.2.2.2.2.1, ())
   else
    agm (s.2.1, s.2.2.1, s.2.2.2.1, false, s.2.2.2.2.2.1, s.2.2.2.2.2.2.1, s.2.2.2.2.2.2.2.1, s.2.2.2.2.2.2.2.2.1, s.2.2.2.2.2.2.2.2.2.1, s.2.2.2.2.2.2.2.2.2.2.1, s.2.2.2.2.2.2.2.2.2.2.2.1, s.2.2.2.2.2.2.2.2.2.2.2.2.1, s.2.2.2.2.2.2.2.2.2.2.2.2.2.1, ())
def agk (s : Bool × List ai × Int × Int × Int × Int × Int × Int × Int × Int × Int × Int × ai × Unit) : Option ((List ai × Int × Int × Int × Int × Int × Int × Int × Int × Int × Int × Unit) ⊕ ((Int × Int × Int × Int × Int × Int × Int × Int × Unit) ⊕ Unit)) :=
 let t0 : Bool := decide (s.2.2.2.2.2.2.2.2.2.2.2.2.1.1 = 1)
 bif t0 then
  agl (s.1, s.2.1, s.2.2.1, s.2.2.2.1, s.1, s.2.2.2.2.1, s.2.2.2.2.2.1, s.2.2.2.2.2.2.1, s.2.2.2.2.2.2.2.1, s.2.2.2.2.2.2.2.2.1, s.2.2.2.2.2.2.2.2.2.1, s.2.2.2.2.2.2.2.2.2.2.1, s.2.2.2.2.2.2.2.2.2.2.2.1, s.2.2.2.2.2.2.2.2.2.2.2.2.1, ())
 else
  agl (s.1, s.2.1, s.2.2.1, s.2.2.2.1, false, s.2.2.2.2.1, s.2.2.2.2.2.1, s.2.2.2.2.2.2.1, s.2.2.2.2.2.2.2.1, s.2.2.2.2.2.2.2.2.1, s.2.2.2.2.2.2.2.2.2.1, s.2.2.2.2.2.2.2.2.2.2.1, s.2.2.2.2.2.2.2.2.2.2.2.1, s.2.2.2.2.2.2.2.2.2.2.2.2.1, ())

def aoM (s : List ai × Int × Int × Int × Int × Int × Int × Int × Int × Int × Int × Unit) : Option ((List ai × Int × Int × Int × Int × Int × Int × Int × Int × Int × Int × Unit) ⊕ ((Int × Int × Int × Int × Int × Int × Int × Int × Unit) ⊕ Unit)) :=
 bif decide (s.2.2.1 < s.2.1) then
  bif decide (0 <= s.2.2.1) && decide (s.2.2.1 < (List.length s.1 : Int)) then
   let t0 : ai := (List.getD s.1 (Int.toNat s.2.2.1) (0, ([], ([], (([], ([], ())), ([], ([], (0, ()))))))))
   match acV (t0.2.1, ()) with
   | none => none
   | some r1 =>
    bif decide (r1.2.1 = 0) then
     agk ((decide (r1.1.2.1 = 1)), s.1, s.2.1, s.2.2.1, s.2.2.2.1, s.2.2.2.2.1, s.2.2.2.2.2.1, s.2.2.2.2.2.2.1, s.2.2.2.2.2.2.2.1, s.2.2.2.2.2.2.2.2.1, s.2.2.2.2.2.2.2.2.2.1, s.2.2.2.2.2.2.2.2.2.2.1, t0, ())
    else
     agk (false, s.1, s.2.1, s.2.2.1, s.2.2.2.1, s.2.2.2.2.1, s.2.2.2.2.2.1, s.2.2.2.2.2.2.1, s.2.2.2.2.2.2.2.1, s.2.2.2.2.2.2.2.2.1, s.2.2.2.2.2.2.2.2.2.1, s.2.2.2.2.2.2.2.2.2.2.1, t0, ())
  else none
 else
  some (.inr (.inl (s.2.2.2.1, s.2.2.2.2.1, s.2.2.2.2.2.1, s.2.2.2.2.2.2.1, s.2.2.2.2.2.2.2.1, s.2.2.2.2.2.2.2.2.1, s.2.2.2.2.2.2.2.2.2.1, s.2.2.2.2.2.2.2.2.2.2.1, ())))
def aoO (s : List ai × Int × Int × Int × Int × Int × Int × Int × Int × Int × Int × Unit) : Option ((Int × Int × Int × Int × Int × Int × Int × Int × Unit) ⊕ Unit) := aP aoM s
def a0n (s : api_Node × Unit) : Option (api_Sum × Unit) :=
 let t0 : Bool := (decide ((((List.length s.1.2.2.1) : Int) : Int) = 0))
 bif t0 then
  match aoG (s.1.1, ()) with
  | none => none
  | some r1 =>
   some (((r1.1.1, (r1.1.1, ())), ((r1.1.2.1, (r1.1.2.1, ())), ())), ())
 else
  match aoN (s.1.2.2.2.1, ((List.length s.1.2.2.2.1) : Int), 0, s.1, 0, 0, 0, 0, 0, 0, 0, 0, ()) with
  | none => none
  | some (.inl z1) =>
   match aoO (z1.1.2.2.2.2.1, ((List.length z1.1.2.2.2.2.1) : Int), 0, z1.2.1, z1.2.2.1, z1.2.2.2.1, z1.2.2.2.2.1, z1.2.2.2.2.2.1, z1.2.2.2.2.2.2.1, z1.2.2.2.2.2.2.2.1, z1.2.2.2.2.2.2.2.2.1, ()) with
   | none => none
   | some (.inl z2) =>
    some (((z2.2.2.2.2.1, (z2.2.2.2.2.2.1, ())), ((z2.2.2.2.2.2.2.1, (z2.2.2.2.2.2.2.2.1, ())), ())), ())
   | some (.inr z2) =>
    none
  | some (.inr z1) =>
   none
def aat (tree_height_r : (aj × Int × aa × Int × Unit) -> Option (Int × Unit)) (s : Int × Int × Int × Int × Int × aj × api_Node × List aa × Unit) : Option ((Int × Int × Int × Int × aj × api_Node × List aa × Unit) ⊕ ((Int × Unit) ⊕ (Int × Unit))) :=
 bif decide (0 <= s.2.1) && decide (s.2.1 < (List.length s.2.2.2.2.2.2.1.2.2.1 : Int)) then
  let t0 : Int := (List.getD s.2.2.2.2.2.2.1.2.2.1 (Int.toNat s.2.1) 0)
  match mS (s.2.2.2.2.2.1, t0, ()) with
  | none => none
  | some r1 =>
   match a0n (r1.1, ()) with
   | none => none
   | some r2 =>
    bif decide (0 <= s.2.1) && decide (s.2.1 < (List.length s.2.2.2.2.2.2.1.2.2.2.1 : Int)) then
     let t3 : api_Sum := (List.getD s.2.2.2.2.2.2.1.2.2.2.1 (Int.toNat s.2.1) ((0, (0, ())), ((0, (0, ())), ())))
     let t4 : Bool := (!(Ty.eqb aH r2.1 t3))
     bif t4 then
      some (.inr (.inl (0, ())))
     else
      let t5 : Int := IntKind.i64.wrap (s.2.2.2.2.1 + 1)
      some (.inl (s.1, s.2.2.1, s.2.2.2.1, t5, s.2.2.2.2.2.1, s.2.2.2.2.2.2.1, s.2.2.2.2.2.2.2.1, ()))
    else none
 else none

def zt (tree_height_r : (aj × Int × aa × Int × Unit) -> Option (Int × Unit)) (s : Int × Int × Int × Int × aj × api_Node × List aa × Unit) : Option ((Int × Int × Int × Int × aj × api_Node × List aa × Unit) ⊕ ((Int × Unit) ⊕ (Int × Unit))) :=
 bif decide (s.2.2.2.1 < s.2.2.1) then
  bif decide (0 <= s.2.2.2.1) && decide (s.2.2.2.1 < (List.length s.2.2.2.2.2.2.1 : Int)) then
   let t0 : aa := (List.getD s.2.2.2.2.2.2.1 (Int.toNat s.2.2.2.1) ([], ([], ())))
   bif decide (0 <= s.2.2.2.1) && decide (s.2.2.2.1 < (List.length s.2.2.2.2.2.1.2.2.1 : Int)) then
    let t1 : Int := (List.getD s.2.2.2.2.2.1.2.2.1 (Int.toNat s.2.2.2.1) 0)
    match tree_height_r (s.2.2.2.2.1, t1, t0, (IntKind.i64.wrap (s.1 - 1)), ()) with
    | none => none
    | some r2 =>
     bif (!(decide (r2.1 = 0))) then
      bif decide (s.2.2.2.1 > 0) then
       bif (!decide (r2.1 = s.2.1)) then
        some (.inr (.inl (0, ())))
       else
        aat tree_height_r (s.1, s.2.2.2.1, r2.1, s.2.2.1, s.2.2.2.1, s.2.2.2.2.1, s.2.2.2.2.2.1, s.2.2.2.2.2.2.1, ())
      else
       aat tree_height_r (s.1, s.2.2.2.1, r2.1, s.2.2.1, s.2.2.2.1, s.2.2.2.2.1, s.2.2.2.2.2.1, s.2.2.2.2.2.2.1, ())
     else
      some (.inr (.inl (0, ())))
   else none
  else none
 else
  some (.inr (.inr (s.2.1, ())))
def zv (tree_height_r : (aj × Int × aa × Int × Unit) -> Option (Int × Unit)) (s : Int × Int × Int × Int × aj × api_Node × List aa × Unit) : Option ((Int × Unit) ⊕ (Int × Unit)) := aP (zt tree_height_r) s
def zu (tree_height_r : (aj × Int × aa × Int × Unit) -> Option (Int × Unit)) (s : Int × Bool × aj × aa × api_Node × Unit) : Option (Int × Unit) :=
 bif s.2.1 then
  some (0, ())
 else
  match tl (s.2.2.2.2.1, ()) with
  | none => none
  | some r0 =>
   bif r0.1 then
    some (1, ())
   else
    match akt (s.2.2.2.2.1, s.2.2.2.1, ()) with
    | none => none
    | some r1 =>
     match zv tree_height_r (s.1, 0, ((List.length r1.1) : Int), 0, s.2.2.1, s.2.2.2.2.1, r1.1, ()) with
     | none => none
     | some (.inl z2) =>
      some (z2.1, ())
     | some (.inr z2) =>
      some ((IntKind.i64.wrap (z2.1 + 1)), ())

def vF (tree_height_r : (aj × Int × aa × Int × Unit) -> Option (Int × Unit)) (s : aj × Int × aa × Int × Unit) : Option (Int × Unit) :=
 match mS (s.1, s.2.1, ()) with
 | none => none
 | some r0 =>
  bif (!(!decide (r0.2.1 = 0))) then
   bif (!(decide (s.2.2.2.1 = 0))) then
    match atj (r0.1, s.2.2.1, ()) with
    | none => none
    | some r1 =>
     zu tree_height_r (s.2.2.2.1, (!r1.1), s.1, s.2.2.1, r0.1, ())
   else
    zu tree_height_r (s.2.2.2.1, true, s.1, s.2.2.1, r0.1, ())
  else
   zu tree_height_r (s.2.2.2.1, true, s.1, s.2.2.1, r0.1, ())
def vE : Nat -> (aj × Int × aa × Int × Unit) -> Option (Int × Unit)
 | 0, _ => none
 | n + 1, s => vF (vE n) s
def aps (s : aj × Int × aa × Int × Unit) : Option (Int × Unit) := vE aqr s
def akB (s : az × Unit) : Option (Bool × Unit) :=
 match akC (s.1.2.2.1, ()) with
 | none => none
 | some r0 =>
  bif r0.1 then
   match aps (s.1.1, s.1.2.1, ([], ([], ())), 64, ()) with
   | none => none
   | some r1 =>
    some ((decide (r1.1 > 0)), ())
  else
   some (false, ())
def pL (s : Int × az × api_Node × Unit) : Option ((Int × az × api_Node × Unit) ⊕ ((Int × Unit) ⊕ Unit)) :=
 match tl (s.2.2.1, ()) with
 | none => none
 | some r0 =>
  bif !r0.1 then
   bif decide ((0 : Int) < (List.length s.2.2.1.2.2.1 : Int)) then
    match mS (s.2.1.1, (List.getD s.2.2.1.2.2.1 0 0), ()) with
    | none => none
    | some r1 =>
     some (.inl ((IntKind.i64.wrap (s.1 + 1)), s.2.1, r1.1, ()))
   else none
  else
   some (.inr (.inl (s.1, ())))
def zr (s : Int × az × api_Node × Unit) : Option ((Int × Unit) ⊕ Unit) := aP pL s
def tj (s : az × Unit) : Option (Int × Unit) :=
 match mS (s.1.1, s.1.2.1, ()) with
 | none => none
 | some r0 =>
  match zr (1, s.1, r0.1, ()) with
  | none => none
  | some (.inl z1) =>
   some (z1.1, ())
  | some (.inr z1) =>
   none
def ci (x_law12_small : Unit -> Option (az × Unit)) (x_tree_Get : (az × List UInt8 × Unit) -> Option lN) (x_tree_Scan : (az × aa × Unit) -> Option (Int × List ae × Unit)) (x_tree_New : (aZ × Unit) -> Option (az × Int × Unit)) (x_tree_Add : (az × ai × Unit) -> Option (az × Int × Unit)) (x_ref04_Same : (List ae × List ae × Unit) -> Option (Bool × Unit)) (x_tree_Valid : (az × Unit) -> Option (Bool × Unit)) (x_tree_Height : (az × Unit) -> Option (Int × Unit)) (s : Bool × Int × Bool × Int × Bool × az × ae × List ae × az × Unit) : Option ((Bool × Unit) ⊕ Unit) :=
 bif s.2.2.2.2.1 then
  let t0 : Bool := (Ty.eqb af s.2.2.2.2.2.2.1 (([99, 47, 120] : List UInt8), (([49] : List UInt8), (0, ()))))
  bif t0 then
   bif s.1 then
    bif decide (s.2.1 = 2) then
     bif !s.2.2.1 then
      bif decide (s.2.2.2.1 = 1) then
       match x_ref04_Same (s.2.2.2.2.2.2.2.1, ([(([99, 47, 120] : List UInt8), (([49] : List UInt8), (0, ())))] : List ae), ()) with
       | none => none
       | some r1 =>
        bif r1.1 then
         match x_tree_Valid (s.2.2.2.2.2.1, ()) with
         | none => none
         | some r2 =>
          bif r2.1 then
           match x_tree_Valid (s.2.2.2.2.2.2.2.2.1, ()) with
           | none => none
           | some r3 =>
            bif r3.1 then
             match x_tree_Height (s.2.2.2.2.2.1, ()) with
             | none => none
             | some r4 =>
              bif decide (r4.1 = 2) then
               match x_tree_Height (s.2.2.2.2.2.2.2.2.1, ()) with
               | none => none
               | some r5 =>
                bif decide (r5.1 = 1) then
                 match x_tree_Valid ((([], ()), (0, ((0, (0, (0, ()))), ()))), ()) with
                 | none => none
                 | some r6 =>
                  some (.inl ((!r6.1), ()))
                else
                 some (.inl (false, ()))
              else
               some (.inl (false, ()))
            else
             some (.inl (false, ()))
          else
           some (.inl (false, ()))
        else
         some (.inl (false, ()))
      else
       some (.inl (false, ()))
     else
      some (.inl (false, ()))
    else
     some (.inl (false, ()))
   else
    some (.inl (false, ()))
  else
   some (.inl (false, ()))
 else
  some (.inl (false, ()))
def un (x_law12_small : Unit -> Option (az × Unit)) (x_tree_Get : (az × List UInt8 × Unit) -> Option lN) (x_tree_Scan : (az × aa × Unit) -> Option (Int × List ae × Unit)) (x_tree_New : (aZ × Unit) -> Option (az × Int × Unit)) (x_tree_Add : (az × ai × Unit) -> Option (az × Int × Unit)) (x_ref04_Same : (List ae × List ae × Unit) -> Option (Bool × Unit)) (x_tree_Valid : (az × Unit) -> Option (Bool × Unit)) (x_tree_Height : (az × Unit) -> Option (Int × Unit)) (s : Unit) : Option (Bool × Unit) :=
 match x_law12_small (()) with
 | none => none
 | some r0 =>
  match x_tree_Get (r0.1, ([99, 47, 120] : List UInt8), ()) with
  | none => none
  | some r1 =>
   match x_tree_Get (r0.1, ([97, 47, 120] : List UInt8), ()) with
   | none => none
   | some r2 =>
    match x_tree_Scan (r0.1, ([], ([], ())), ()) with
    | none => none
    | some r3 =>
     match x_tree_New ((1, (2, (1, ()))), ()) with
     | none => none
     | some r4 =>
      match x_tree_Add (r0.1, (0, ([], ([], (([], ([], ())), ([], ([], (0, ()))))))), ()) with
      | none => none
      | some r5 =>
       match x_tree_New (r0.1.2.2.1, ()) with
       | none => none
       | some r6 =>
        let t7 : Bool := decide (r1.2.2.2.1 = 0)
        bif t7 then
         let t8 : Bool := decide (r2.2.2.2.1 = 0)
         bif t8 then
          bif decide (r3.1 = 0) then
           bif decide (r4.2.1 = 120) then
            bif decide (r5.2.1 = 50) then
             match ci x_law12_small x_tree_Get x_tree_Scan x_tree_New x_tree_Add x_ref04_Same x_tree_Valid x_tree_Height (r1.2.1, r1.2.2.1, r2.2.1, r2.2.2.1, (decide (r6.2.1 = 0)), r0.1, r1.1, r3.2.1, r6.1, ()) with
             | none => none
             | some (.inl z9) =>
              some (z9.1, ())
             | some (.inr z9) =>
              none
            else
             match ci x_law12_small x_tree_Get x_tree_Scan x_tree_New x_tree_Add x_ref04_Same x_tree_Valid x_tree_Height (r1.2.1, r1.2.2.1, r2.2.1, r2.2.2.1, false, r0.1, r1.1, r3.2.1, r6.1, ()) with
             | none => none
             | some (.inl z9) =>
              some (z9.1, ())
             | some (.inr z9) =>
              none
           else
            match ci x_law12_small x_tree_Get x_tree_Scan x_tree_New x_tree_Add x_ref04_Same x_tree_Valid x_tree_Height (r1.2.1, r1.2.2.1, r2.2.1, r2.2.2.1, false, r0.1, r1.1, r3.2.1, r6.1, ()) with
            | none => none
            | some (.inl z9) =>
             some (z9.1, ())
            | some (.inr z9) =>
             none
          else
           match ci x_law12_small x_tree_Get x_tree_Scan x_tree_New x_tree_Add x_ref04_Same x_tree_Valid x_tree_Height (r1.2.1, r1.2.2.1, r2.2.1, r2.2.2.1, false, r0.1, r1.1, r3.2.1, r6.1, ()) with
           | none => none
           | some (.inl z9) =>
            some (z9.1, ())
           | some (.inr z9) =>
            none
         else
          match ci x_law12_small x_tree_Get x_tree_Scan x_tree_New x_tree_Add x_ref04_Same x_tree_Valid x_tree_Height (r1.2.1, r1.2.2.1, r2.2.1, r2.2.2.1, false, r0.1, r1.1, r3.2.1, r6.1, ()) with
          | none => none
          | some (.inl z9) =>
           some (z9.1, ())
          | some (.inr z9) =>
           none
        else
         match ci x_law12_small x_tree_Get x_tree_Scan x_tree_New x_tree_Add x_ref04_Same x_tree_Valid x_tree_Height (r1.2.1, r1.2.2.1, r2.2.1, r2.2.2.1, false, r0.1, r1.1, r3.2.1, r6.1, ()) with
         | none => none
         | some (.inl z8) =>
          some (z8.1, ())
         | some (.inr z8) =>
          none
def acP (s : Unit) : Option (Bool × Unit) := un afW zq ahy auv aus ak3 akB tj s
def qm (s : Int × Unit) : Option (List UInt8 × Unit) :=
 let t0 : Bool := (decide (((Int.tmod s.1 24) : Int) < 20))
 bif t0 then
  let t1 : Int := (IntKind.u8.wrap (Int.tdiv (Int.tmod s.1 24) 5))
  bif (decide (0 <= t1) && decide (t1 < (List.length ([([97, 47] : List UInt8), ([98, 47] : List UInt8), ([97, 47, 98, 47] : List UInt8), ([99, 47] : List UInt8)] : List (List UInt8)) : Int))) then
   let t2 : List UInt8 := (List.getD ([([97, 47] : List UInt8), ([98, 47] : List UInt8), ([97, 47, 98, 47] : List UInt8), ([99, 47] : List UInt8)] : List (List UInt8)) (Int.toNat t1) [])
   let t3 : Int := (Int.tmod (Int.tmod s.1 24) 5)
   bif (decide (0 <= t3) && decide (t3 < (List.length ([([1] : List UInt8), ([2, 0, 0] : List UInt8), ([2, 0, 1] : List UInt8), ([2, 0, 2] : List UInt8), ([3, 120] : List UInt8)] : List (List UInt8)) : Int))) then
    let t4 : List UInt8 := (List.getD ([([1] : List UInt8), ([2, 0, 0] : List UInt8), ([2, 0, 1] : List UInt8), ([2, 0, 2] : List UInt8), ([3, 120] : List UInt8)] : List (List UInt8)) (Int.toNat t3) [])
    bif decide (List.length t2 + List.length t4 <= aw) then
     some ((t2 ++ t4), ())
    else none
   else none
  else none
 else
  let t1 : Int := (IntKind.u8.wrap ((Int.tmod s.1 24) - 20))
  bif (decide (0 <= t1) && decide (t1 < (List.length ([([1] : List UInt8), ([5, 48, 48, 48, 48, 48, 48, 48, 49, 47, 1] : List UInt8), ([6, 97, 47, 1] : List UInt8), ([97, 47, 98, 47, 99, 47, 1] : List UInt8)] : List (List UInt8)) : Int))) then
   let t2 : List UInt8 := (List.getD ([([1] : List UInt8), ([5, 48, 48, 48, 48, 48, 48, 48, 49, 47, 1] : List UInt8), ([6, 97, 47, 1] : List UInt8), ([97, 47, 98, 47, 99, 47, 1] : List UInt8)] : List (List UInt8)) (Int.toNat t1) [])
   some (t2, ())
  else none
def adb (s : aZ × Unit) : Option (ae × Unit) :=
 match qm (s.1.1, ()) with
 | none => none
 | some r0 =>
  bif (decide (0 <= (Int.tmod s.1.2.1 4)) && decide (((Int.tmod s.1.2.1 4) : Int) < (List.length ([[], ([118] : List UInt8), ([119, 120] : List UInt8), ([120, 121, 122] : List UInt8)] : List (List UInt8)) : Int))) then
   let t1 : List UInt8 := (List.getD ([[], ([118] : List UInt8), ([119, 120] : List UInt8), ([120, 121, 122] : List UInt8)] : List (List UInt8)) (Int.toNat (Int.tmod s.1.2.1 4)) [])
   let t2 : Int := IntKind.i64.wrap (Int.tmod s.1.2.2.1 4)
   some ((r0.1, (t1, (t2, ()))), ())
  else none
def xa (s : List ae × Bool × Int × ae × List ae × Unit) : Option ((List ae × Bool × Int × ae × List ae × Unit) ⊕ ((Bool × ae × List ae × Unit) ⊕ Unit)) :=
 bif decide (0 <= s.2.2.1) && decide (s.2.2.1 < (List.length s.1 : Int)) then
  let t0 : ae := (List.getD s.1 (Int.toNat s.2.2.1) ([], ([], (0, ()))))
  let t1 : Bool := (!decide ((t0.1 : List UInt8) = s.2.2.2.1.1))
  bif t1 then
   bif decide (0 <= s.2.2.1) && decide (s.2.2.1 < (List.length s.1 : Int)) then
    let t2 : ae := (List.getD s.1 (Int.toNat s.2.2.1) ([], ([], (0, ()))))
    bif (decide ((List.length s.2.2.2.2.1 + List.length ([t2] : List ae)) * 40 <= aw)) then
     let t3 : List ae := (s.2.2.2.2.1 ++ ([t2] : List ae))
     some (.inl (s.1, s.2.1, (IntKind.i64.wrap (s.2.2.1 + 1)), s.2.2.2.1, t3, ()))
    else none
   else none
  else
   some (.inl (s.1, s.2.1, (IntKind.i64.wrap (s.2.2.1 + 1)), s.2.2.2.1, s.2.2.2.2.1, ()))
 else none
def xb (s : List ae × Bool × Int × Bool × ae × List ae × Unit) : Option ((List ae × Bool × Int × ae × List ae × Unit) ⊕ ((Bool × ae × List ae × Unit) ⊕ Unit)) :=
 bif s.2.2.2.1 then
  bif (decide ((List.length s.2.2.2.2.2.1 + List.length ([s.2.2.2.2.1] : List ae)) * 40 <= aw)) then
   let t0 : List ae := (s.2.2.2.2.2.1 ++ ([s.2.2.2.2.1] : List ae))
   xa (s.1, true, s.2.2.1, s.2.2.2.2.1, t0, ())
  else none
 else
  xa (s.1, s.2.1, s.2.2.1, s.2.2.2.2.1, s.2.2.2.2.2.1, ())

def uw (s : List ae × Bool × Int × ae × List ae × Unit) : Option ((List ae × Bool × Int × ae × List ae × Unit) ⊕ ((Bool × ae × List ae × Unit) ⊕ Unit)) :=
 let t0 : Bool := (decide (s.2.2.1 < ((List.length s.1) : Int)))
 bif t0 then
  bif !s.2.1 then
   bif decide (0 <= s.2.2.1) && decide (s.2.2.1 < (List.length s.1 : Int)) then
    let t1 : ae := (List.getD s.1 (Int.toNat s.2.2.1) ([], ([], (0, ()))))
    xb (s.1, s.2.1, s.2.2.1, (!(Op.bytesLess t1.1 s.2.2.2.1.1)), s.2.2.2.1, s.2.2.2.2.1, ())
   else none
  else
   xb (s.1, s.2.1, s.2.2.1, false, s.2.2.2.1, s.2.2.2.2.1, ())
 else
  some (.inr (.inl (s.2.1, s.2.2.2.1, s.2.2.2.2.1, ())))
def adc (s : List ae × Bool × Int × ae × List ae × Unit) : Option ((Bool × ae × List ae × Unit) ⊕ Unit) := aP uw s
def aht (s : List ae × ae × Unit) : Option (List ae × Unit) :=
 match adc (s.1, false, 0, s.2.1, [], ()) with
 | none => none
 | some (.inl z0) =>
  bif !z0.1 then
   bif (decide ((List.length z0.2.2.1 + List.length ([z0.2.1] : List ae)) * 40 <= aw)) then
    let t1 : List ae := (z0.2.2.1 ++ ([z0.2.1] : List ae))
    some (t1, ())
   else none
  else
   some (z0.2.2.1, ())
 | some (.inr z0) =>
  none
def lL (s : List aZ × Int × Bool × List ae × Unit) : Option ((List aZ × Int × List ae × Unit) ⊕ ((List ae × Unit) ⊕ Unit)) :=
 bif s.2.2.1 then
  bif decide (0 <= s.2.1) && decide (s.2.1 < (List.length s.1 : Int)) then
   let t0 : aZ := (List.getD s.1 (Int.toNat s.2.1) (0, (0, (0, ()))))
   match adb (t0, ()) with
   | none => none
   | some r1 =>
    match aht (s.2.2.2.1, r1.1, ()) with
    | none => none
    | some r2 =>
     some (.inl (s.1, (IntKind.i64.wrap (s.2.1 + 1)), r2.1, ()))
  else none
 else
  some (.inr (.inl (s.2.2.2.1, ())))

def nl (s : List aZ × Int × List ae × Unit) : Option ((List aZ × Int × List ae × Unit) ⊕ ((List ae × Unit) ⊕ Unit)) :=
 let t0 : Bool := (decide (s.2.1 < ((List.length s.1) : Int)))
 bif t0 then
  lL (s.1, s.2.1, (decide (s.2.1 < 40)), s.2.2.1, ())
 else
  lL (s.1, s.2.1, false, s.2.2.1, ())
def vO (s : List aZ × Int × List ae × Unit) : Option ((List ae × Unit) ⊕ Unit) := aP nl s
def zi (s : List aZ × Unit) : Option (List ae × Unit) :=
 match vO (s.1, 0, [], ()) with
 | none => none
 | some (.inl z0) =>
  some (z0.1, ())
 | some (.inr z0) =>
  none
def acf (s : aa × List UInt8 × Unit) : Option (Bool × Unit) :=
 bif (!(Op.bytesLess s.2.1 s.1.1)) then
  let t0 : Bool := decide ((s.1.2.1 : List UInt8) = [])
  bif !t0 then
   some ((Op.bytesLess s.2.1 s.1.2.1), ())
  else
   some (true, ())
 else
  some (false, ())
def pw (s : List ae × Int × aa × List ae × Unit) : Option ((List ae × Int × aa × List ae × Unit) ⊕ ((List ae × Unit) ⊕ Unit)) :=
 let t0 : Bool := (decide (s.2.1 < ((List.length s.1) : Int)))
 bif t0 then
  bif decide (0 <= s.2.1) && decide (s.2.1 < (List.length s.1 : Int)) then
   let t1 : ae := (List.getD s.1 (Int.toNat s.2.1) ([], ([], (0, ()))))
   match acf (s.2.2.1, t1.1, ()) with
   | none => none
   | some r2 =>
    bif r2.1 then
     bif decide (0 <= s.2.1) && decide (s.2.1 < (List.length s.1 : Int)) then
      let t3 : ae := (List.getD s.1 (Int.toNat s.2.1) ([], ([], (0, ()))))
      bif (decide ((List.length s.2.2.2.1 + List.length ([t3] : List ae)) * 40 <= aw)) then
       let t4 : List ae := (s.2.2.2.1 ++ ([t3] : List ae))
       some (.inl (s.1, (IntKind.i64.wrap (s.2.1 + 1)), s.2.2.1, t4, ()))
      else none
     else none
    else
     some (.inl (s.1, (IntKind.i64.wrap (s.2.1 + 1)), s.2.2.1, s.2.2.2.1, ()))
  else none
 else
  some (.inr (.inl (s.2.2.2.1, ())))
def zj (s : List ae × Int × aa × List ae × Unit) : Option ((List ae × Unit) ⊕ Unit) := aP pw s
def aae (s : List ae × aa × Unit) : Option (List ae × Unit) :=
 match zj (s.1, 0, s.2.1, [], ()) with
 | none => none
 | some (.inl z0) =>
  some (z0.1, ())
 | some (.inr z0) =>
  none
def ze (s : aa) : Option (Bool × Unit) :=
 let t0 : Bool := (!decide ((s.1 : List UInt8) = []))
 bif t0 then
  let t1 : Bool := decide ((s.2.1 : List UInt8) = [])
  bif !t1 then
   some ((Op.bytesLess s.1 s.2.1), ())
  else
   some (true, ())
 else
  some (false, ())
def sX (s : aa × Unit) : Option (Bool × Unit) :=
 let t0 : Bool := (!decide ((s.1.2.1 : List UInt8) = []))
 bif t0 then
  let t1 : Bool := (Op.bytesLess s.1.2.1 s.1.1 || decide ((s.1.2.1 : List UInt8) = s.1.1))
  some (t1, ())
 else
  some (false, ())
def ak2 (s : Unit) : Option (aa × Unit) :=
 some ((([97] : List UInt8), (([97] : List UInt8), ())), ())
def vN (s : List UInt8 × List UInt8 × List UInt8 × List UInt8 × Unit) : Option (aa × Unit) :=
 match sX ((s.2.2.1, (s.2.2.2.1, ())), ()) with
 | none => none
 | some r0 =>
  bif r0.1 then
   match ak2 (()) with
   | none => none
   | some r1 =>
    some (r1.1, ())
  else
   some ((s.2.2.1, (s.2.2.2.1, ())), ())

def zf (s : aa × aa × Unit) : Option (aa × Unit) :=
 let t0 : List UInt8 := (bif !(Op.bytesLess s.1.1 s.2.1.1) then s.1.1 else s.2.1.1)
 match ze (s.2.1.2.1, s.1.2.1, ()) with
 | none => none
 | some r1 =>
  bif r1.1 then
   vN ([], [], t0, s.2.1.2.1, ())
  else
   vN ([], [], t0, s.1.2.1, ())
def pt (s : (List (List UInt8)) × List UInt8 × Int × aa × List aa × Unit) : Option (((List (List UInt8)) × List UInt8 × Int × aa × List aa × Unit) ⊕ ((List UInt8 × aa × List aa × Unit) ⊕ Unit)) :=
 let t0 : Bool := (decide (s.2.2.1 < ((List.length s.1) : Int)))
 bif t0 then
  bif decide (0 <= s.2.2.1) && decide (s.2.2.1 < (List.length s.1 : Int)) then
   let t1 : List UInt8 := (List.getD s.1 (Int.toNat s.2.2.1) [])
   match zf (s.2.2.2.1, (s.2.1, (t1, ())), ()) with
   | none => none
   | some r2 =>
    bif (decide ((List.length s.2.2.2.2.1 + List.length ([r2.1] : List aa)) * 32 <= aw)) then
     let t3 : List aa := (s.2.2.2.2.1 ++ ([r2.1] : List aa))
     bif decide (0 <= s.2.2.1) && decide (s.2.2.1 < (List.length s.1 : Int)) then
      let t4 : List UInt8 := (List.getD s.1 (Int.toNat s.2.2.1) [])
      some (.inl (s.1, t4, (IntKind.i64.wrap (s.2.2.1 + 1)), s.2.2.2.1, t3, ()))
     else none
    else none
  else none
 else
  some (.inr (.inl (s.2.1, s.2.2.2.1, s.2.2.2.2.1, ())))
def zg (s : (List (List UInt8)) × List UInt8 × Int × aa × List aa × Unit) : Option ((List UInt8 × aa × List aa × Unit) ⊕ Unit) := aP pt s
def aac (s : aa × (List (List UInt8)) × Unit) : Option (List aa × Unit) :=
 match zg (s.2.1, [], 0, s.1, [], ()) with
 | none => none
 | some (.inl z0) =>
  match zf (z0.2.1, (z0.1, ([], ())), ()) with
  | none => none
  | some r1 =>
   bif (decide ((List.length z0.2.2.1 + List.length ([r1.1] : List aa)) * 32 <= aw)) then
    let t2 : List aa := (z0.2.2.1 ++ ([r1.1] : List aa))
    some (t2, ())
   else none
 | some (.inr z0) =>
  none
def aag (s : api_Node × aa × Unit) : Option (List aa × Unit) :=
 let t0 : Bool := (decide ((((List.length s.1.2.2.1) : Int) : Int) = 0))
 bif t0 then
  some ([], ())
 else
  match aac (s.2.1, s.1.2.1, ()) with
  | none => none
  | some r1 =>
   some (r1.1, ())
def v6 (s : aO) : Option (api_Node × Int × Unit) :=
 match v7 (s.1, s.2.1, ()) with
 | none => none
 | some r0 =>
  bif !r0.1 then
   some (([], ([], ([], ([], ([], ()))))), 110, ())
  else
   bif decide (0 <= s.2.1) && decide (s.2.1 < (List.length s.1.1 : Int)) then
    let t1 : ak := (List.getD s.1.1 (Int.toNat s.2.1) (false, (false, (0, (([], ([], ([], ([], ([], ()))))), ())))))
    bif t1.2.1 then
     some (([], ([], ([], ([], ([], ()))))), 112, ())
    else
     bif decide (0 <= s.2.1) && decide (s.2.1 < (List.length s.1.1 : Int)) then
      let t2 : ak := (List.getD s.1.1 (Int.toNat s.2.1) (false, (false, (0, (([], ([], ([], ([], ([], ()))))), ())))))
      some (t2.2.2.2.1, 0, ())
     else none
   else none
def ak4 (s : api_Sum × api_Sum × Unit) : Option (api_Sum × Unit) :=
 let t0 : Int := (if ((IntKind.i64.wrap (s.1.1.1 + s.2.1.1.1)) : Int) < 1000000000000000 then (IntKind.i64.wrap (s.1.1.1 + s.2.1.1.1)) else 1000000000000000)
 let t1 : Int := IntKind.i64.wrap (s.1.1.2.1 + s.2.1.1.2.1)
 let t2 : Int := (if (t1 : Int) < 1000000000000000 then t1 else 1000000000000000)
 let t3 : Int := IntKind.i64.wrap (s.1.2.1.1 + s.2.1.2.1.1)
 let t4 : Int := (if (t3 : Int) < 1000000000000000 then t3 else 1000000000000000)
 let t5 : Int := IntKind.i64.wrap (s.1.2.1.2.1 + s.2.1.2.1.2.1)
 let t6 : Int := (if (t5 : Int) < 1000000000000000 then t5 else 1000000000000000)
 some (((t0, (t2, ())), ((t4, (t6, ())), ())), ())
def zd (s : List UInt8 × Int × Bool × List UInt8 × Int × Int × List UInt8 × List UInt8 × Int × Int × List UInt8 × Unit) : Option (bO × Unit) :=
 bif s.2.2.1 then
  bif decide ((1 : Int) <= s.2.1) && decide (s.2.1 <= (List.length s.1 : Int)) then
   let t0 : List UInt8 := (List.drop (Int.toNat 1) (List.take (Int.toNat s.2.1) s.1))
   some ((t0, (4, (s.2.2.2.2.2.2.2.2.2.1, (s.2.2.2.2.2.2.2.2.2.2.1, ())))), ())
  else none
 else
  some ((s.2.2.2.2.2.2.2.1, (s.2.2.2.2.2.2.2.2.1, (s.2.2.2.2.2.2.2.2.2.1, (s.2.2.2.2.2.2.2.2.2.2.1, ())))), ())
def ag4 (s : List UInt8 × Int × List UInt8 × Int × Int × List UInt8 × List UInt8 × Int × Int × List UInt8 × Unit) : Option (bO × Unit) :=
 let t0 : Bool := decide (s.2.2.2.2.2.2.2.1 = 1)
 bif t0 then
  bif decide (s.2.1 > 0) then
   bif decide ((0 : Int) < (List.length s.1 : Int)) then
    let t1 : Bool := (decide ((((List.getD s.1 0 0).toNat : Int) : Int) = 6))
    zd (s.1, s.2.1, t1, s.2.2.1, s.2.2.2.1, s.2.2.2.2.1, s.2.2.2.2.2.1, s.2.2.2.2.2.2.1, s.2.2.2.2.2.2.2.1, s.2.2.2.2.2.2.2.2.1, s.2.2.2.2.2.2.2.2.2.1, ())
   else none
  else
   zd (s.1, s.2.1, false, s.2.2.1, s.2.2.2.1, s.2.2.2.2.1, s.2.2.2.2.2.1, s.2.2.2.2.2.2.1, s.2.2.2.2.2.2.2.1, s.2.2.2.2.2.2.2.2.1, s.2.2.2.2.2.2.2.2.2.1, ())
 else
  zd (s.1, s.2.1, false, s.2.2.1, s.2.2.2.1, s.2.2.2.2.1, s.2.2.2.2.2.1, s.2.2.2.2.2.2.1, s.2.2.2.2.2.2.2.1, s.2.2.2.2.2.2.2.2.1, s.2.2.2.2.2.2.2.2.2.1, ())
def ag3 (s : List UInt8 × Int × List UInt8 × List UInt8 × Int × Int × List UInt8 × List UInt8 × Int × Int × List UInt8 × Unit) : Option (bO × Unit) :=
 let t0 : Bool := decide (s.2.2.2.2.2.2.2.2.1 = 3)
 bif t0 then
  ag4 (s.1, s.2.1, s.2.2.2.1, s.2.2.2.2.1, s.2.2.2.2.2.1, s.2.2.2.2.2.2.1, s.2.2.2.2.2.2.2.1, s.2.2.2.2.2.2.2.2.1, s.2.2.2.2.2.2.2.2.2.1, s.2.2.1, ())
 else
  ag4 (s.1, s.2.1, s.2.2.2.1, s.2.2.2.2.1, s.2.2.2.2.2.1, s.2.2.2.2.2.2.1, s.2.2.2.2.2.2.2.1, s.2.2.2.2.2.2.2.2.1, s.2.2.2.2.2.2.2.2.2.1, s.2.2.2.2.2.2.2.2.2.2.1, ())
def ag5 (s : List UInt8 × Int × List UInt8 × Bool × List UInt8 × Int × Int × List UInt8 × List UInt8 × Int × Int × List UInt8 × Unit) : Option (bO × Unit) :=
 bif s.2.2.2.1 then
  bif decide ((0 : Int) < (List.length s.2.2.1 : Int)) then
   let t0 : Int := IntKind.i64.wrap ((List.getD s.2.2.1 0 0).toNat : Int)
   bif decide ((1 : Int) < (List.length s.2.2.1 : Int)) then
    let t1 : Int := ((List.getD s.2.2.1 (Int.toNat 1) 0).toNat : Int)
    let t2 : Int := (IntKind.i64.wrap ((IntKind.i64.wrap (256 * t0)) + (IntKind.i64.wrap t1)))
    ag3 (s.1, s.2.1, s.2.2.1, s.2.2.2.2.1, s.2.2.2.2.2.1, s.2.2.2.2.2.2.1, s.2.2.2.2.2.2.2.1, s.2.2.2.2.2.2.2.2.1, s.2.2.2.2.2.2.2.2.2.1, t2, s.2.2.2.2.2.2.2.2.2.2.2.1, ())
   else none
  else none
 else
  ag3 (s.1, s.2.1, s.2.2.1, s.2.2.2.2.1, s.2.2.2.2.2.1, s.2.2.2.2.2.2.1, s.2.2.2.2.2.2.2.1, s.2.2.2.2.2.2.2.2.1, s.2.2.2.2.2.2.2.2.2.1, s.2.2.2.2.2.2.2.2.2.2.1, s.2.2.2.2.2.2.2.2.2.2.2.1, ())

def ape (s : au) : Option (bO × Unit) :=
 bif decide ((0 : Int) <= s.2.1) && decide (s.2.1 <= (List.length s.1 : Int)) then
  let t0 : List UInt8 := (List.drop 0 (List.take (Int.toNat s.2.1) s.1))
  bif decide (0 <= s.2.1) && decide (s.2.1 < (List.length s.1 : Int)) then
   let t1 : Int := ((List.getD s.1 (Int.toNat s.2.1) 0).toNat : Int)
   bif (decide (0 <= (IntKind.i64.wrap (s.2.1 + 1))) && decide (((IntKind.i64.wrap (s.2.1 + 1)) : Int) <= (List.length s.1 : Int)) && decide (((List.length s.1 : Int) : Int) <= (List.length s.1 : Int))) then
    let t2 : List UInt8 := (List.drop (Int.toNat (IntKind.i64.wrap (s.2.1 + 1))) (List.take (Int.toNat (List.length s.1 : Int)) s.1))
    let t3 : Bool := (decide (((IntKind.i64.wrap t1) : Int) = 2))
    bif t3 then
     let t4 : Bool := (decide ((((List.length t2) : Int) : Int) = 2))
     ag5 (s.1, s.2.1, t2, t4, [], 0, 0, [], t0, (IntKind.i64.wrap t1), 0, [], ())
    else
     ag5 (s.1, s.2.1, t2, false, [], 0, 0, [], t0, (IntKind.i64.wrap t1), 0, [], ())
   else none
  else none
 else none
def ags (s : List UInt8 × List UInt8 × Int × (List (List UInt8)) × Unit) : Option ((List UInt8 × List UInt8 × Int × (List (List UInt8)) × Unit) ⊕ ((List UInt8 × (List (List UInt8)) × Unit) ⊕ Unit)) :=
 let t0 : Bool := (decide (s.2.2.1 < ((List.length s.1) : Int)))
 bif t0 then
  bif decide (0 <= s.2.2.1) && decide (s.2.2.1 < (List.length s.1 : Int)) then
   let t1 : Int := ((List.getD s.1 (Int.toNat s.2.2.1) 0).toNat : Int)
   bif decide (t1 = 47) then
    bif (decide ((List.length s.2.2.2.1 + List.length ([s.2.1] : List (List UInt8))) * 16 <= aw)) then
     let t2 : List (List UInt8) := (s.2.2.2.1 ++ ([s.2.1] : List (List UInt8)))
     some (.inl (s.1, [], (IntKind.i64.wrap (s.2.2.1 + 1)), t2, ()))
    else none
   else
    bif (decide (0 <= s.2.2.1) && decide (s.2.2.1 <= (IntKind.i64.wrap (s.2.2.1 + 1))) && decide (((IntKind.i64.wrap (s.2.2.1 + 1)) : Int) <= (List.length s.1 : Int))) then
     let t2 : List UInt8 := (List.drop (Int.toNat s.2.2.1) (List.take (Int.toNat (IntKind.i64.wrap (s.2.2.1 + 1))) s.1))
     bif decide (List.length s.2.1 + List.length t2 <= aw) then
      some (.inl (s.1, (s.2.1 ++ t2), (IntKind.i64.wrap (s.2.2.1 + 1)), s.2.2.2.1, ()))
     else none
    else none
  else none
 else
  some (.inr (.inl (s.2.1, s.2.2.2.1, ())))
def agu (s : List UInt8 × List UInt8 × Int × (List (List UInt8)) × Unit) : Option ((List UInt8 × (List (List UInt8)) × Unit) ⊕ Unit) := aP ags s
def apd (s : List UInt8 × Unit) : Option (Bool × (List (List UInt8)) × Unit) :=
 match agu (s.1, [], 0, [], ()) with
 | none => none
 | some (.inl z0) =>
  let t1 : Bool := decide ((z0.1 : List UInt8) = [])
  some (t1, z0.2.1, ())
 | some (.inr z0) =>
  none
def aiZ (s : au) : Option (au ⊕ ((Bool × Unit) ⊕ Unit)) :=
 let t0 : Bool := (decide (s.2.1 < ((List.length s.1) : Int)))
 bif t0 then
  bif decide (0 <= s.2.1) && decide (s.2.1 < (List.length s.1 : Int)) then
   let t1 : Int := ((List.getD s.1 (Int.toNat s.2.1) 0).toNat : Int)
   bif (!(decide (t1 < 33))) then
    bif decide (0 <= s.2.1) && decide (s.2.1 < (List.length s.1 : Int)) then
     let t2 : Int := ((List.getD s.1 (Int.toNat s.2.1) 0).toNat : Int)
     bif (!(decide (t2 > 126))) then
      bif decide (0 <= s.2.1) && decide (s.2.1 < (List.length s.1 : Int)) then
       let t3 : Int := ((List.getD s.1 (Int.toNat s.2.1) 0).toNat : Int)
       bif decide (t3 = 47) then
        some (.inr (.inl (false, ())))
       else
        some (.inl (s.1, (IntKind.i64.wrap (s.2.1 + 1)), ()))
      else none
     else
      some (.inr (.inl (false, ())))
    else none
   else
    some (.inr (.inl (false, ())))
  else none
 else
  some (.inr (.inr (())))
def ajb (s : au) : Option ((Bool × Unit) ⊕ Unit) := aP aiZ s
def akz (s : List UInt8 × Unit) : Option (Bool × Unit) :=
 let t0 : Bool := (decide ((((List.length s.1) : Int) : Int) < 1))
 bif !t0 then
  let t1 : Bool := (decide ((((List.length s.1) : Int) : Int) > 12))
  bif !t1 then
   let t2 : Bool := decide ((s.1 : List UInt8) = ([46] : List UInt8))
   bif !t2 then
    let t3 : Bool := decide ((s.1 : List UInt8) = ([46, 46] : List UInt8))
    bif t3 then
     some (false, ())
    else
     match ajb (s.1, 0, ()) with
     | none => none
     | some (.inl z4) =>
      some (z4.1, ())
     | some (.inr z4) =>
      some (true, ())
   else
    some (false, ())
  else
   some (false, ())
 else
  some (false, ())
def agz (s : Bool × Int × (List (List UInt8)) × Unit) : Option ((Bool × Int × (List (List UInt8)) × Unit) ⊕ ((Bool × Unit) ⊕ (Bool × Unit))) :=
 let t0 : Bool := (decide (s.2.1 < ((List.length s.2.2.1) : Int)))
 bif t0 then
  bif decide (0 <= s.2.1) && decide (s.2.1 < (List.length s.2.2.1 : Int)) then
   let t1 : List UInt8 := (List.getD s.2.2.1 (Int.toNat s.2.1) [])
   match akz (t1, ()) with
   | none => none
   | some r2 =>
    bif !r2.1 then
     some (.inr (.inl (false, ())))
    else
     some (.inl (s.1, (IntKind.i64.wrap (s.2.1 + 1)), s.2.2.1, ()))
  else none
 else
  some (.inr (.inr (s.1, ())))
def ag1 (s : Bool × Int × (List (List UInt8)) × Unit) : Option ((Bool × Unit) ⊕ (Bool × Unit)) := aP agz s
def wu (s : List UInt8 × Unit) : Option (Bool × Unit) :=
 match apd (s.1, ()) with
 | none => none
 | some r0 =>
  match ag1 (r0.1, 0, r0.2.1, ()) with
  | none => none
  | some (.inl z1) =>
   some (z1.1, ())
  | some (.inr z1) =>
   some (z1.1, ())
def aiV (s : Int × List UInt8 × Int × Unit) : Option ((Int × List UInt8 × Int × Unit) ⊕ ((List UInt8 × Unit) ⊕ Unit)) :=
 bif decide (s.2.2.1 < 8) then
  let t0 : Int := IntKind.i64.wrap ((Int.tmod s.1 16) + 1)
  bif (decide (0 <= (Int.tmod s.1 16)) && decide (((Int.tmod s.1 16) : Int) <= t0) && decide (t0 <= (List.length ([48, 49, 50, 51, 52, 53, 54, 55, 56, 57, 97, 98, 99, 100, 101, 102] : List UInt8) : Int))) then
   let t1 : List UInt8 := (List.drop (Int.toNat (Int.tmod s.1 16)) (List.take (Int.toNat t0) ([48, 49, 50, 51, 52, 53, 54, 55, 56, 57, 97, 98, 99, 100, 101, 102] : List UInt8)))
   bif decide (List.length t1 + List.length s.2.1 <= aw) then
    let t2 : Int := IntKind.i64.wrap (Int.tdiv s.1 16)
    some (.inl (t2, (t1 ++ s.2.1), (IntKind.i64.wrap (s.2.2.1 + 1)), ()))
   else none
  else none
 else
  some (.inr (.inl (s.2.1, ())))
def aiY (s : Int × List UInt8 × Int × Unit) : Option ((List UInt8 × Unit) ⊕ Unit) := aP aiV s
def aiX (s : Int × Bool × Unit) : Option (List UInt8 × Unit) :=
 bif s.2.1 then
  some ([], ())
 else
  match aiY (s.1, [], 0, ()) with
  | none => none
  | some (.inl z0) =>
   bif decide (List.length ([5] : List UInt8) + List.length z0.1 <= aw) then
    bif (decide (List.length (([5] : List UInt8) ++ z0.1) + List.length ([47] : List UInt8) <= aw)) then
     let t1 : List UInt8 := ((([5] : List UInt8) ++ z0.1) ++ ([47] : List UInt8))
     some (t1, ())
    else none
   else none
  | some (.inr z0) =>
   none

def atz (s : Int × Unit) : Option (List UInt8 × Unit) :=
 bif (!(decide (s.1 < 0))) then
  let t0 : Bool := decide (s.1 > 2147483647)
  aiX (s.1, t0, ())
 else
  aiX (s.1, true, ())
def zc (s : List UInt8 × Int × Int × Int × Bool × Unit) : Option ((List UInt8 × Int × Int × Unit) ⊕ (au ⊕ Unit)) :=
 bif s.2.2.2.2.1 then
  let t0 : Int := (IntKind.i64.wrap ((IntKind.i64.wrap (16 * s.2.1)) + s.2.2.2.1))
  some (.inl (s.1, (IntKind.i64.wrap (t0 - 48)), (IntKind.i64.wrap (s.2.2.1 + 1)), ()))
 else
  let t0 : Int := (IntKind.i64.wrap ((IntKind.i64.wrap (16 * s.2.1)) + s.2.2.2.1))
  let t1 : Int := (IntKind.i64.wrap ((IntKind.i64.wrap (t0 - 97)) + 10))
  some (.inl (s.1, t1, (IntKind.i64.wrap (s.2.2.1 + 1)), ()))

def aen (s : List UInt8 × Int × Int × Unit) : Option ((List UInt8 × Int × Int × Unit) ⊕ (au ⊕ Unit)) :=
 bif decide (s.2.2.1 < 9) then
  bif decide (0 <= s.2.2.1) && decide (s.2.2.1 < (List.length s.1 : Int)) then
   let t0 : Int := ((List.getD s.1 (Int.toNat s.2.2.1) 0).toNat : Int)
   let t1 : Bool := (decide (((IntKind.i64.wrap t0) : Int) >= 48))
   bif t1 then
    let t2 : Bool := (decide (((IntKind.i64.wrap t0) : Int) <= 57))
    zc (s.1, s.2.1, s.2.2.1, (IntKind.i64.wrap t0), t2, ())
   else
    zc (s.1, s.2.1, s.2.2.1, (IntKind.i64.wrap t0), false, ())
  else none
 else
  some (.inr (.inl (s.1, s.2.1, ())))
def aep (s : List UInt8 × Int × Int × Unit) : Option (au ⊕ Unit) := aP aen s
def xE (s : List UInt8 × Unit) : Option (Bool × Unit) :=
 let t0 : Bool := (!decide ((((List.length s.1) : Int) : Int) = 10))
 bif t0 then
  some (false, ())
 else
  match aep (s.1, 0, 1, ()) with
  | none => none
  | some (.inl z1) =>
   match atz (z1.2.1, ()) with
   | none => none
   | some r2 =>
    some ((decide ((r2.1 : List UInt8) = z1.1)), ())
  | some (.inr z1) =>
   none
def aV (s : Bool × bO × Unit) : Option ((bO × Unit) ⊕ (Bool × Unit)) :=
 bif s.1 then
  some (.inr (false, ()))
 else
  some (.inl (s.2.1, ()))
def kH (s : bO × Unit) : Option ((Bool × Unit) ⊕ Unit) :=
 bif decide (s.1.2.1 = 4) then
  match wu (s.1.1, ()) with
  | none => none
  | some r0 =>
   some (.inl (r0.1, ()))
 else
  some (.inl (false, ()))
def bD (s : bO × Unit) : Option ((Bool × Unit) ⊕ Unit) :=
 bif decide (s.1.2.1 = 1) then
  some (.inl (true, ()))
 else
  bif decide (s.1.2.1 = 2) then
   bif decide (s.1.2.2.1 >= 0) then
    let t0 : Bool := decide (s.1.2.2.1 <= 60000)
    some (.inl (t0, ()))
   else
    some (.inl (false, ()))
  else
   bif decide (s.1.2.1 = 3) then
    match akz (s.1.2.2.2.1, ()) with
    | none => none
    | some r0 =>
     some (.inl (r0.1, ()))
   else
    match kH (s.1, ()) with
    | none => none
    | some (.inl z0) =>
     some (.inl (z0.1, ()))
    | some (.inr z0) =>
     none
def apf (s : bO × Unit) : Option (Bool × Unit) :=
 match wu (s.1.1, ()) with
 | none => none
 | some r0 =>
  bif !r0.1 then
   match xE (s.1.1, ()) with
   | none => none
   | some r1 =>
    bif (!(!r1.1)) then
     bif (!decide (s.1.2.1 = 2)) then
      let t2 : Bool := (!decide (s.1.2.2.1 = 0))
      bif !t2 then
       bif (!decide (s.1.2.1 = 3)) then
        let t3 : Bool := (!decide ((s.1.2.2.2.1 : List UInt8) = []))
        match aV (t3, s.1, ()) with
        | none => none
        | some (.inl z4) =>
         match bD (z4.1, ()) with
         | none => none
         | some (.inl z5) =>
          some (z5.1, ())
         | some (.inr z5) =>
          none
        | some (.inr z4) =>
         some (z4.1, ())
       else
        match aV (false, s.1, ()) with
        | none => none
        | some (.inl z3) =>
         match bD (z3.1, ()) with
         | none => none
         | some (.inl z4) =>
          some (z4.1, ())
         | some (.inr z4) =>
          none
        | some (.inr z3) =>
         some (z3.1, ())
      else
       match aV (true, s.1, ()) with
       | none => none
       | some (.inl z3) =>
        match bD (z3.1, ()) with
        | none => none
        | some (.inl z4) =>
         some (z4.1, ())
        | some (.inr z4) =>
         none
       | some (.inr z3) =>
        some (z3.1, ())
     else
      bif (!decide (s.1.2.1 = 3)) then
       let t2 : Bool := (!decide ((s.1.2.2.2.1 : List UInt8) = []))
       match aV (t2, s.1, ()) with
       | none => none
       | some (.inl z3) =>
        match bD (z3.1, ()) with
        | none => none
        | some (.inl z4) =>
         some (z4.1, ())
        | some (.inr z4) =>
         none
       | some (.inr z3) =>
        some (z3.1, ())
      else
       match aV (false, s.1, ()) with
       | none => none
       | some (.inl z2) =>
        match bD (z2.1, ()) with
        | none => none
        | some (.inl z3) =>
         some (z3.1, ())
        | some (.inr z3) =>
         none
       | some (.inr z2) =>
        some (z2.1, ())
    else
     match aV (true, s.1, ()) with
     | none => none
     | some (.inl z2) =>
      match bD (z2.1, ()) with
      | none => none
      | some (.inl z3) =>
       some (z3.1, ())
      | some (.inr z3) =>
       none
     | some (.inr z2) =>
      some (z2.1, ())
  else
   bif (!decide (s.1.2.1 = 2)) then
    let t1 : Bool := (!decide (s.1.2.2.1 = 0))
    bif !t1 then
     bif (!decide (s.1.2.1 = 3)) then
      let t2 : Bool := (!decide ((s.1.2.2.2.1 : List UInt8) = []))
      match aV (t2, s.1, ()) with
      | none => none
      | some (.inl z3) =>
       match bD (z3.1, ()) with
       | none => none
       | some (.inl z4) =>
        some (z4.1, ())
       | some (.inr z4) =>
        none
      | some (.inr z3) =>
       some (z3.1, ())
     else
      match aV (false, s.1, ()) with
      | none => none
      | some (.inl z2) =>
       match bD (z2.1, ()) with
       | none => none
       | some (.inl z3) =>
        some (z3.1, ())
       | some (.inr z3) =>
        none
      | some (.inr z2) =>
       some (z2.1, ())
    else
     match aV (true, s.1, ()) with
     | none => none
     | some (.inl z2) =>
      match bD (z2.1, ()) with
      | none => none
      | some (.inl z3) =>
       some (z3.1, ())
      | some (.inr z3) =>
       none
     | some (.inr z2) =>
      some (z2.1, ())
   else
    bif (!decide (s.1.2.1 = 3)) then
     let t1 : Bool := (!decide ((s.1.2.2.2.1 : List UInt8) = []))
     match aV (t1, s.1, ()) with
     | none => none
     | some (.inl z2) =>
      match bD (z2.1, ()) with
      | none => none
      | some (.inl z3) =>
       some (z3.1, ())
      | some (.inr z3) =>
       none
     | some (.inr z2) =>
      some (z2.1, ())
    else
     match aV (false, s.1, ()) with
     | none => none
     | some (.inl z1) =>
      match bD (z1.1, ()) with
      | none => none
      | some (.inl z2) =>
       some (z2.1, ())
      | some (.inr z2) =>
       none
     | some (.inr z1) =>
      some (z1.1, ())
def axd (s : bO × Unit) : Option au :=
 match apf (s.1, ()) with
 | none => none
 | some r0 =>
  bif !r0.1 then
   some ([], 12, ())
  else
   bif decide (s.1.2.1 = 1) then
    bif decide (List.length s.1.1 + List.length ([1] : List UInt8) <= aw) then
     some ((s.1.1 ++ ([1] : List UInt8)), 0, ())
    else none
   else
    bif decide (s.1.2.1 = 2) then
     bif decide (List.length s.1.1 + List.length ([2] : List UInt8) <= aw) then
      let t1 : Int := IntKind.i64.wrap (Int.tdiv s.1.2.2.1 256)
      let t2 : Int := (IntKind.u8.wrap (Int.tmod s.1.2.2.1 256))
      let t3 : List UInt8 := (w5 ([(IntKind.u8.wrap t1), t2] : List Int))
      bif (decide (List.length (s.1.1 ++ ([2] : List UInt8)) + List.length t3 <= aw)) then
       some (((s.1.1 ++ ([2] : List UInt8)) ++ t3), 0, ())
      else none
     else none
    else
     bif decide (s.1.2.1 = 3) then
      bif decide (List.length s.1.1 + List.length ([3] : List UInt8) <= aw) then
       bif (decide (List.length (s.1.1 ++ ([3] : List UInt8)) + List.length s.1.2.2.2.1 <= aw)) then
        let t1 : List UInt8 := ((s.1.1 ++ ([3] : List UInt8)) ++ s.1.2.2.2.1)
        some (t1, 0, ())
       else none
      else none
     else
      bif decide (List.length ([6] : List UInt8) + List.length s.1.1 <= aw) then
       bif (decide (List.length (([6] : List UInt8) ++ s.1.1) + List.length ([1] : List UInt8) <= aw)) then
        let t1 : List UInt8 := ((([6] : List UInt8) ++ s.1.1) ++ ([1] : List UInt8))
        some (t1, 0, ())
       else none
      else none
def aab (s : List UInt8 × Int × Bool × List UInt8 × Int × Int × List UInt8 × Unit) : Option ((List UInt8 × Int × List UInt8 × Int × Int × List UInt8 × Unit) ⊕ ((Int × bO × Unit) ⊕ bO)) :=
 bif s.2.2.1 then
  some (.inl (s.1, (IntKind.i64.wrap (s.2.1 + 1)), s.2.2.2.1, s.2.2.2.2.1, s.2.2.2.2.2.1, s.2.2.2.2.2.2.1, ()))
 else
  match ape (s.1, s.2.1, ()) with
  | none => none
  | some r0 =>
   match axd (r0.1, ()) with
   | none => none
   | some r1 =>
    bif decide (r1.2.1 = 0) then
     bif decide ((r1.1 : List UInt8) = s.1) then
      some (.inr (.inl (0, r0.1, ())))
     else
      some (.inl (s.1, (IntKind.i64.wrap (s.2.1 + 1)), s.2.2.2.1, s.2.2.2.2.1, s.2.2.2.2.2.1, s.2.2.2.2.2.2.1, ()))
    else
     some (.inl (s.1, (IntKind.i64.wrap (s.2.1 + 1)), s.2.2.2.1, s.2.2.2.2.1, s.2.2.2.2.2.1, s.2.2.2.2.2.2.1, ()))

def agv (s : List UInt8 × Int × List UInt8 × Int × Int × List UInt8 × Unit) : Option ((List UInt8 × Int × List UInt8 × Int × Int × List UInt8 × Unit) ⊕ ((Int × bO × Unit) ⊕ bO)) :=
 let t0 : Bool := (decide (s.2.1 < ((List.length s.1) : Int)))
 bif t0 then
  bif decide (0 <= s.2.1) && decide (s.2.1 < (List.length s.1 : Int)) then
   let t1 : Int := ((List.getD s.1 (Int.toNat s.2.1) 0).toNat : Int)
   bif (!(decide (t1 < 1))) then
    bif decide (0 <= s.2.1) && decide (s.2.1 < (List.length s.1 : Int)) then
     let t2 : Int := ((List.getD s.1 (Int.toNat s.2.1) 0).toNat : Int)
     aab (s.1, s.2.1, (decide (t2 > 3)), s.2.2.1, s.2.2.2.1, s.2.2.2.2.1, s.2.2.2.2.2.1, ())
    else none
   else
    aab (s.1, s.2.1, true, s.2.2.1, s.2.2.2.1, s.2.2.2.2.1, s.2.2.2.2.2.1, ())
  else none
 else
  some (.inr (.inr (s.2.2.1, s.2.2.2.1, s.2.2.2.2.1, s.2.2.2.2.2.1, ())))
def agx (s : List UInt8 × Int × List UInt8 × Int × Int × List UInt8 × Unit) : Option ((Int × bO × Unit) ⊕ bO) := aP agv s
def sW (s : List UInt8 × Unit) : Option (bO × Int × Unit) :=
 match agx (s.1, 0, [], 0, 0, [], ()) with
 | none => none
 | some (.inl z0) =>
  some (z0.2.1, z0.1, ())
 | some (.inr z0) =>
  some (([], (0, (0, ([], ())))), 12, ())
def rD (s : List UInt8 × Unit) : Option (Bool × Unit) :=
 match sW (s.1, ()) with
 | none => none
 | some r0 =>
  bif decide (r0.2.1 = 0) then
   some ((decide (r0.1.2.1 = 1)), ())
  else
   some (false, ())
def qn (s : fi × Int × Unit) : Option vp :=
 let t0 : Int := (if ((IntKind.i64.wrap (s.1.2.1 + s.2.1)) : Int) < 1000000000000000 then (IntKind.i64.wrap (s.1.2.1 + s.2.1)) else 1000000000000000)
 some ((s.1.1, (t0, ())), ())
def wv (s : fi × Int × Unit) : Option vp :=
 let t0 : Int := (if (0 : Int) < (IntKind.i64.wrap (s.1.1 - s.2.1)) then (IntKind.i64.wrap (s.1.1 - s.2.1)) else 0)
 some ((t0, (s.1.2.1, ())), ())
def uy (s : List UInt8 × List UInt8 × Bool × Bool × Unit) : Option (Bool × Unit) :=
 bif !s.2.2.1 then
  bif !s.2.2.2.1 then
   match xE (s.1, ()) with
   | none => none
   | some r0 =>
    bif r0.1 then
     match xE (s.2.1, ()) with
     | none => none
     | some r1 =>
      some (r1.1, ())
    else
     some (false, ())
  else
   some (true, ())
 else
  some (true, ())
def ux (s : List UInt8 × List UInt8 × Bool × Unit) : Option (Bool × Unit) :=
 let t0 : Bool := (!decide ((s.1 : List UInt8) = []))
 bif t0 then
  let t1 : Bool := (!decide ((s.2.1 : List UInt8) = []))
  bif t1 then
   match wu (s.1, ()) with
   | none => none
   | some r2 =>
    bif r2.1 then
     match wu (s.2.1, ()) with
     | none => none
     | some r3 =>
      uy (s.1, s.2.1, s.2.2.1, r3.1, ())
    else
     uy (s.1, s.2.1, s.2.2.1, false, ())
  else
   uy (s.1, s.2.1, s.2.2.1, false, ())
 else
  uy (s.1, s.2.1, s.2.2.1, false, ())

def ref10_Alike (s : aa) : Option (Bool × Unit) :=
 let t0 : Bool := (decide ((((List.length s.1) : Int) : Int) > 0))
 bif t0 then
  bif decide ((0 : Int) < (List.length s.1 : Int)) then
   let t1 : Bool := (decide ((((List.getD s.1 0 0).toNat : Int) : Int) = 6))
   bif t1 then
    let t2 : Bool := (decide ((((List.length s.2.1) : Int) : Int) > 0))
    bif t2 then
     bif decide ((0 : Int) < (List.length s.2.1 : Int)) then
      let t3 : Bool := (decide ((((List.getD s.2.1 0 0).toNat : Int) : Int) = 6))
      ux (s.1, s.2.1, t3, ())
     else none
    else
     ux (s.1, s.2.1, false, ())
   else
    ux (s.1, s.2.1, false, ())
  else none
 else
  ux (s.1, s.2.1, false, ())
def xI (s : api_Sum × ai × Unit) : Option (api_Sum × Unit) :=
 bif decide (s.2.1.1 = 1) then
  match rD (s.2.1.2.1, ()) with
  | none => none
  | some r0 =>
   bif r0.1 then
    match qn (s.1.1, 1, ()) with
    | none => none
    | some r1 =>
     some ((r1.1, (s.1.2.1, ())), ())
   else
    match wv (s.1.2.1, 64, ()) with
    | none => none
    | some r1 =>
     match qn (r1.1, ((List.length s.2.1.2.2.1) : Int), ()) with
     | none => none
     | some r2 =>
      some ((s.1.1, (r2.1, ())), ())
 else
  bif decide (s.2.1.1 = 2) then
   match rD (s.2.1.2.1, ()) with
   | none => none
   | some r0 =>
    bif r0.1 then
     match wv (s.1.1, 1, ()) with
     | none => none
     | some r1 =>
      some ((r1.1, (s.1.2.1, ())), ())
    else
     match wv (s.1.2.1, 64, ()) with
     | none => none
     | some r1 =>
      some ((s.1.1, (r1.1, ())), ())
  else
   bif decide (s.2.1.1 = 6) then
    some (s.1, ())
   else
    bif decide (s.2.1.1 = 3) then
     some (((0, (s.1.1.2.1, ())), ((0, (s.1.2.1.2.1, ())), ())), ())
    else
     match ref10_Alike (s.2.1.2.2.2.2.1, s.2.1.2.2.2.2.2.1, ()) with
     | none => none
     | some r0 =>
      bif !r0.1 then
       some (((0, (1000000000000000, ())), ((0, (1000000000000000, ())), ())), ())
      else
       bif decide (s.2.1.1 = 5) then
        match qn ((0, (s.1.1.2.1, ())), s.1.1.2.1, ()) with
        | none => none
        | some r1 =>
         match qn ((0, (s.1.2.1.2.1, ())), s.1.2.1.2.1, ()) with
         | none => none
         | some r2 =>
          some ((r1.1, (r2.1, ())), ())
       else
        some (((0, (s.1.1.2.1, ())), ((0, (s.1.2.1.2.1, ())), ())), ())
def xG (s : ae × Unit) : Option vp :=
 match sW (s.1.1, ()) with
 | none => none
 | some r0 =>
  bif (!decide (r0.2.1 = 0)) then
   some ((0, (0, ())), ())
  else
   bif decide (r0.1.2.1 = 1) then
    some ((1, (0, ())), ())
   else
    bif decide (r0.1.2.1 = 2) then
     some ((0, (((List.length s.1.2.1) : Int), ())), ())
    else
     bif decide (r0.1.2.1 = 3) then
      some ((0, (((List.length s.1.2.1) : Int), ())), ())
     else
      some ((0, (0, ())), ())
def pu (s : List ae × Int × Int × Int × Int × Int × Unit) : Option ((List ae × Int × Int × Int × Int × Int × Unit) ⊕ ((Int × Int × Int × Int × Unit) ⊕ Unit)) :=
 let t0 : Bool := (decide (s.2.1 < ((List.length s.1) : Int)))
 bif t0 then
  bif decide (0 <= s.2.1) && decide (s.2.1 < (List.length s.1 : Int)) then
   let t1 : ae := (List.getD s.1 (Int.toNat s.2.1) ([], ([], (0, ()))))
   match xG (t1, ()) with
   | none => none
   | some r2 =>
    let t3 : Int := IntKind.i64.wrap (s.2.2.2.2.1 + r2.1.1)
    let t4 : Int := IntKind.i64.wrap (s.2.2.2.2.2.1 + r2.1.2.1)
    some (.inl (s.1, (IntKind.i64.wrap (s.2.1 + 1)), s.2.2.1, s.2.2.2.1, t3, t4, ()))
  else none
 else
  some (.inr (.inl (s.2.2.1, s.2.2.2.1, s.2.2.2.2.1, s.2.2.2.2.2.1, ())))
def zh (s : List ae × Int × Int × Int × Int × Int × Unit) : Option ((Int × Int × Int × Int × Unit) ⊕ Unit) := aP pu s
def aad (s : List ae × Unit) : Option vp :=
 match zh (s.1, 0, 0, 0, 0, 0, ()) with
 | none => none
 | some (.inl z0) =>
  some ((z0.2.2.1, (z0.2.2.2.1, ())), ())
 | some (.inr z0) =>
  none
def agA (s : vp) : Option (api_Sum × Unit) :=
 some (((s.1.1, (s.1.1, ())), ((s.1.2.1, (s.1.2.1, ())), ())), ())
def uz (s : Int × api_Node × Int × Int × Int × Int × api_Sum × Unit) : Option ((Int × api_Node × Int × Int × Int × Int × api_Sum × Unit) ⊕ ((api_Node × Int × Int × Int × Int × api_Sum × Unit) ⊕ Unit)) :=
 let t0 : Bool := (decide (s.1 < ((List.length s.2.1.2.2.2.1) : Int)))
 bif t0 then
  bif decide (0 <= s.1) && decide (s.1 < (List.length s.2.1.2.2.2.1 : Int)) then
   let t1 : api_Sum := (List.getD s.2.1.2.2.2.1 (Int.toNat s.1) ((0, (0, ())), ((0, (0, ())), ())))
   match ak4 (s.2.2.2.2.2.2.1, t1, ()) with
   | none => none
   | some r2 =>
    some (.inl ((IntKind.i64.wrap (s.1 + 1)), s.2.1, s.2.2.1, s.2.2.2.1, s.2.2.2.2.1, s.2.2.2.2.2.1, r2.1, ()))
  else none
 else
  some (.inr (.inl (s.2.1, s.2.2.1, s.2.2.2.1, s.2.2.2.2.1, s.2.2.2.2.2.1, s.2.2.2.2.2.2.1, ())))
def adh (s : Int × api_Node × Int × Int × Int × Int × api_Sum × Unit) : Option ((api_Node × Int × Int × Int × Int × api_Sum × Unit) ⊕ Unit) := aP uz s
def u0 (s : Int × api_Node × Int × Int × Int × Int × api_Sum × Unit) : Option ((Int × api_Node × Int × Int × Int × Int × api_Sum × Unit) ⊕ ((Int × Int × Int × Int × api_Sum × Unit) ⊕ Unit)) :=
 let t0 : Bool := (decide (s.1 < ((List.length s.2.1.2.2.2.2.1) : Int)))
 bif t0 then
  bif decide (0 <= s.1) && decide (s.1 < (List.length s.2.1.2.2.2.2.1 : Int)) then
   let t1 : ai := (List.getD s.2.1.2.2.2.2.1 (Int.toNat s.1) (0, ([], ([], (([], ([], ())), ([], ([], (0, ()))))))))
   match xI (s.2.2.2.2.2.2.1, t1, ()) with
   | none => none
   | some r2 =>
    some (.inl ((IntKind.i64.wrap (s.1 + 1)), s.2.1, s.2.2.1, s.2.2.2.1, s.2.2.2.2.1, s.2.2.2.2.2.1, r2.1, ()))
  else none
 else
  some (.inr (.inl (s.2.2.1, s.2.2.2.1, s.2.2.2.2.1, s.2.2.2.2.2.1, s.2.2.2.2.2.2.1, ())))
def adi (s : Int × api_Node × Int × Int × Int × Int × api_Sum × Unit) : Option ((Int × Int × Int × Int × api_Sum × Unit) ⊕ Unit) := aP u0 s
def sY (s : api_Node × Unit) : Option (api_Sum × Unit) :=
 let t0 : Bool := (decide ((((List.length s.1.2.2.1) : Int) : Int) = 0))
 bif t0 then
  match aad (s.1.1, ()) with
  | none => none
  | some r1 =>
   match agA (r1.1, ()) with
   | none => none
   | some r2 =>
    some (r2.1, ())
 else
  match adh (0, s.1, 0, 0, 0, 0, ((0, (0, ())), ((0, (0, ())), ())), ()) with
  | none => none
  | some (.inl z1) =>
   match adi (0, z1.1, z1.2.1, z1.2.2.1, z1.2.2.2.1, z1.2.2.2.2.1, z1.2.2.2.2.2.1, ()) with
   | none => none
   | some (.inl z2) =>
    some (z2.2.2.2.2.1, ())
   | some (.inr z2) =>
    none
  | some (.inr z1) =>
   none
def li (s : Int × Unit) : Option (List UInt8 × Unit) :=
 bif (decide (0 <= (Int.tmod s.1 5)) && decide (((Int.tmod s.1 5) : Int) < (List.length ([([97, 47] : List UInt8), ([98, 47] : List UInt8), ([97, 47, 98, 47] : List UInt8), ([99, 47] : List UInt8), ([100, 47] : List UInt8)] : List (List UInt8)) : Int))) then
  let t0 : List UInt8 := (List.getD ([([97, 47] : List UInt8), ([98, 47] : List UInt8), ([97, 47, 98, 47] : List UInt8), ([99, 47] : List UInt8), ([100, 47] : List UInt8)] : List (List UInt8)) (Int.toNat (Int.tmod s.1 5)) [])
  some (t0, ())
 else none
def xT (s : Int × Unit) : Option (List UInt8 × Unit) :=
 match li ((Int.tmod s.1 4), ()) with
 | none => none
 | some r0 =>
  let t1 : Int := (IntKind.u8.wrap (Int.tdiv s.1 4))
  bif (decide (0 <= (Int.tmod t1 5)) && decide (((Int.tmod t1 5) : Int) < (List.length ([([1] : List UInt8), ([2, 0, 0] : List UInt8), ([2, 0, 1] : List UInt8), ([2, 0, 2] : List UInt8), ([3, 120] : List UInt8)] : List (List UInt8)) : Int))) then
   let t2 : List UInt8 := (List.getD ([([1] : List UInt8), ([2, 0, 0] : List UInt8), ([2, 0, 1] : List UInt8), ([2, 0, 2] : List UInt8), ([3, 120] : List UInt8)] : List (List UInt8)) (Int.toNat (Int.tmod t1 5)) [])
   bif decide (List.length r0.1 + List.length t2 <= aw) then
    some ((r0.1 ++ t2), ())
   else none
  else none
def aer (s : List UInt8 × Int × List UInt8 × List UInt8 × Unit) : Option ((List UInt8 × Int × List UInt8 × List UInt8 × Unit) ⊕ ((List UInt8 × Int × List UInt8 × List UInt8 × Unit) ⊕ Unit)) :=
 bif decide (s.2.1 > 0) then
  bif (decide (0 <= (IntKind.i64.wrap (s.2.1 - 1))) && decide (((IntKind.i64.wrap (s.2.1 - 1)) : Int) < (List.length s.1 : Int))) then
   let t0 : Int := ((List.getD s.1 (Int.toNat (IntKind.i64.wrap (s.2.1 - 1))) 0).toNat : Int)
   bif decide (t0 = 255) then
    some (.inl (s.1, (IntKind.i64.wrap (s.2.1 - 1)), s.2.2.1, s.2.2.2.1, ()))
   else
    some (.inr (.inl (s.1, s.2.1, s.2.2.1, s.2.2.2.1, ())))
  else none
 else
  some (.inr (.inl (s.1, s.2.1, s.2.2.1, s.2.2.2.1, ())))
def aet (s : List UInt8 × Int × List UInt8 × List UInt8 × Unit) : Option ((List UInt8 × Int × List UInt8 × List UInt8 × Unit) ⊕ Unit) := aP aer s
def jl (s : List UInt8 × Unit) : Option (aa × Unit) :=
 match aet (s.1, ((List.length s.1) : Int), [], [], ()) with
 | none => none
 | some (.inl z0) =>
  bif decide (z0.2.1 = 0) then
   some ((z0.1, ([], ())), ())
  else
   bif (decide ((0 : Int) <= (IntKind.i64.wrap (z0.2.1 - 1))) && decide (((IntKind.i64.wrap (z0.2.1 - 1)) : Int) <= (List.length z0.1 : Int))) then
    let t1 : List UInt8 := (List.drop 0 (List.take (Int.toNat (IntKind.i64.wrap (z0.2.1 - 1))) z0.1))
    bif (decide (0 <= (IntKind.i64.wrap (z0.2.1 - 1))) && decide (((IntKind.i64.wrap (z0.2.1 - 1)) : Int) < (List.length z0.1 : Int))) then
     let t2 : Int := ((List.getD z0.1 (Int.toNat (IntKind.i64.wrap (z0.2.1 - 1))) 0).toNat : Int)
     let t3 : List UInt8 := (w5 ([(IntKind.u8.wrap (t2 + 1))] : List Int))
     bif decide (List.length t1 + List.length t3 <= aw) then
      some ((z0.1, ((t1 ++ t3), ())), ())
     else none
    else none
   else none
 | some (.inr z0) =>
  none
def uv (s : aa) : Option (Bool × Unit) :=
 let t0 : Bool := (decide ((((List.length s.1) : Int) : Int) >= ((List.length s.2.1) : Int)))
 bif t0 then
  bif (decide ((0 : Int) <= ((List.length s.2.1) : Int)) && decide ((((List.length s.2.1) : Int) : Int) <= (List.length s.1 : Int))) then
   let t1 : List UInt8 := (List.drop 0 (List.take (Int.toNat ((List.length s.2.1) : Int)) s.1))
   some ((decide ((t1 : List UInt8) = s.2.1)), ())
  else none
 else
  some (false, ())
def px (s : Int × Unit) : Option (List UInt8 × Unit) :=
 bif (decide (0 <= (Int.tmod s.1 5)) && decide (((Int.tmod s.1 5) : Int) < (List.length ([[], ([120] : List UInt8), ([121, 121] : List UInt8), ([49, 50, 51, 52, 53, 54, 55, 56, 57, 48] : List UInt8), ([0, 255] : List UInt8)] : List (List UInt8)) : Int))) then
  let t0 : List UInt8 := (List.getD ([[], ([120] : List UInt8), ([121, 121] : List UInt8), ([49, 50, 51, 52, 53, 54, 55, 56, 57, 48] : List UInt8), ([0, 255] : List UInt8)] : List (List UInt8)) (Int.toNat (Int.tmod s.1 5)) [])
  some (t0, ())
 else none
def vw (s : List UInt8 × Unit) : Option (aa × Unit) :=
 bif decide (List.length s.1 + List.length ([0] : List UInt8) <= aw) then
  some ((s.1, ((s.1 ++ ([0] : List UInt8)), ())), ())
 else none
def cV (s : List UInt8 × List UInt8 × List UInt8 × Bool × (Int × Int × Int × Int × Int × Int × Unit) × Int × List UInt8 × List UInt8 × List UInt8 × List UInt8 × List UInt8 × List UInt8 × Int × aa × Unit) : Option ((List UInt8 × List UInt8 × List UInt8 × (Int × Int × Int × Int × Int × Int × Unit) × Int × List UInt8 × List UInt8 × List UInt8 × List UInt8 × List UInt8 × List UInt8 × Int × aa × Unit) ⊕ Unit) :=
 bif s.2.2.2.1 then
  let t0 : Bool := decide ((s.2.1 : List UInt8) = ([100, 47] : List UInt8))
  bif t0 then
   some (.inl (s.1, s.2.1, ([99, 47] : List UInt8), s.2.2.2.2.1, s.2.2.2.2.2.1, s.2.2.2.2.2.2.1, s.2.2.2.2.2.2.2.1, s.2.2.2.2.2.2.2.2.1, s.2.2.2.2.2.2.2.2.2.1, s.2.2.2.2.2.2.2.2.2.2.1, s.2.2.2.2.2.2.2.2.2.2.2.1, s.2.2.2.2.2.2.2.2.2.2.2.2.1, s.2.2.2.2.2.2.2.2.2.2.2.2.2.1, ()))
  else
   some (.inl (s.1, s.2.1, ([100, 47] : List UInt8), s.2.2.2.2.1, s.2.2.2.2.2.1, s.2.2.2.2.2.2.1, s.2.2.2.2.2.2.2.1, s.2.2.2.2.2.2.2.2.1, s.2.2.2.2.2.2.2.2.2.1, s.2.2.2.2.2.2.2.2.2.2.1, s.2.2.2.2.2.2.2.2.2.2.2.1, s.2.2.2.2.2.2.2.2.2.2.2.2.1, s.2.2.2.2.2.2.2.2.2.2.2.2.2.1, ()))
 else
  some (.inl (s.1, s.2.1, s.2.2.1, s.2.2.2.2.1, s.2.2.2.2.2.1, s.2.2.2.2.2.2.1, s.2.2.2.2.2.2.2.1, s.2.2.2.2.2.2.2.2.1, s.2.2.2.2.2.2.2.2.2.1, s.2.2.2.2.2.2.2.2.2.2.1, s.2.2.2.2.2.2.2.2.2.2.2.1, s.2.2.2.2.2.2.2.2.2.2.2.2.1, s.2.2.2.2.2.2.2.2.2.2.2.2.2.1, ()))
def fb (s : List UInt8 × List UInt8 × List UInt8 × (Int × Int × Int × Int × Int × Int × Unit) × Int × List UInt8 × List UInt8 × List UInt8 × List UInt8 × List UInt8 × List UInt8 × Int × aa × Unit) : Option (ai ⊕ Unit) :=
 let t0 : Int := (Int.tmod s.2.2.2.1.2.2.2.2.2.1 8)
 let t1 : Bool := (decide (((Int.tmod s.2.2.2.1.1 6) : Int) = 0))
 bif t1 then
  match px (s.2.2.2.1.2.2.1, ()) with
  | none => none
  | some r2 =>
   some (.inl (1, s.1, r2.1, ([], ([], ())), [], [], (IntKind.i64.wrap t0), ()))
 else
  let t2 : Bool := (decide (((Int.tmod s.2.2.2.1.1 6) : Int) = 1))
  bif t2 then
   some (.inl (2, s.1, [], ([], ([], ())), [], [], 0, ()))
  else
   let t3 : Bool := (decide (((Int.tmod s.2.2.2.1.1 6) : Int) = 2))
   bif t3 then
    some (.inl (3, [], [], s.2.2.2.2.2.2.2.2.2.2.2.2.1, [], [], 0, ()))
   else
    let t4 : Bool := (decide (((Int.tmod s.2.2.2.1.1 6) : Int) = 3))
    bif t4 then
     some (.inl (4, [], [], ([], ([], ())), s.2.1, s.2.2.1, 0, ()))
    else
     let t5 : Bool := (decide (((Int.tmod s.2.2.2.1.1 6) : Int) = 4))
     bif t5 then
      some (.inl (5, [], [], ([], ([], ())), s.2.1, s.2.2.1, 0, ()))
     else
      some (.inl (6, [], [], s.2.2.2.2.2.2.2.2.2.2.2.2.1, [], [], (IntKind.i64.wrap t0), ()))
def bX (s : List UInt8 × (Int × Int × Int × Int × Int × Int × Unit) × Int × List UInt8 × List UInt8 × List UInt8 × List UInt8 × List UInt8 × List UInt8 × Int × aa × Unit) : Option (ai ⊕ Unit) :=
 match li (s.2.1.2.1, ()) with
 | none => none
 | some r0 =>
  match li (s.2.1.2.2.2.1, ()) with
  | none => none
  | some r1 =>
   match uv (r0.1, r1.1, ()) with
   | none => none
   | some r2 =>
    bif !r2.1 then
     match uv (r1.1, r0.1, ()) with
     | none => none
     | some r3 =>
      match cV (s.1, r0.1, r1.1, r3.1, s.2.1, s.2.2.1, s.2.2.2.1, s.2.2.2.2.1, s.2.2.2.2.2.1, s.2.2.2.2.2.2.1, s.2.2.2.2.2.2.2.1, s.2.2.2.2.2.2.2.2.1, s.2.2.2.2.2.2.2.2.2.1, s.2.2.2.2.2.2.2.2.2.2.1, ()) with
      | none => none
      | some (.inl z4) =>
       match fb (z4.1, z4.2.1, z4.2.2.1, z4.2.2.2.1, z4.2.2.2.2.1, z4.2.2.2.2.2.1, z4.2.2.2.2.2.2.1, z4.2.2.2.2.2.2.2.1, z4.2.2.2.2.2.2.2.2.1, z4.2.2.2.2.2.2.2.2.2.1, z4.2.2.2.2.2.2.2.2.2.2.1, z4.2.2.2.2.2.2.2.2.2.2.2.1, z4.2.2.2.2.2.2.2.2.2.2.2.2.1, ()) with
       | none => none
       | some (.inl z5) =>
        some (.inl (z5.1, z5.2.1, z5.2.2.1, z5.2.2.2.1, z5.2.2.2.2.1, z5.2.2.2.2.2.1, z5.2.2.2.2.2.2.1, ()))
       | some (.inr z5) =>
        none
      | some (.inr z4) =>
       none
    else
     match cV (s.1, r0.1, r1.1, true, s.2.1, s.2.2.1, s.2.2.2.1, s.2.2.2.2.1, s.2.2.2.2.2.1, s.2.2.2.2.2.2.1, s.2.2.2.2.2.2.2.1, s.2.2.2.2.2.2.2.2.1, s.2.2.2.2.2.2.2.2.2.1, s.2.2.2.2.2.2.2.2.2.2.1, ()) with
     | none => none
     | some (.inl z3) =>
      match fb (z3.1, z3.2.1, z3.2.2.1, z3.2.2.2.1, z3.2.2.2.2.1, z3.2.2.2.2.2.1, z3.2.2.2.2.2.2.1, z3.2.2.2.2.2.2.2.1, z3.2.2.2.2.2.2.2.2.1, z3.2.2.2.2.2.2.2.2.2.1, z3.2.2.2.2.2.2.2.2.2.2.1, z3.2.2.2.2.2.2.2.2.2.2.2.1, z3.2.2.2.2.2.2.2.2.2.2.2.2.1, ()) with
      | none => none
      | some (.inl z4) =>
       some (.inl (z4.1, z4.2.1, z4.2.2.1, z4.2.2.2.1, z4.2.2.2.2.1, z4.2.2.2.2.2.1, z4.2.2.2.2.2.2.1, ()))
      | some (.inr z4) =>
       none
     | some (.inr z3) =>
      none
def zk (s : (Int × Int × Int × Int × Int × Int × Unit) × Unit) : Option (ai × Unit) :=
 match xT (s.1.2.1, ()) with
 | none => none
 | some r0 =>
  match xT (s.1.2.2.2.1, ()) with
  | none => none
  | some r1 =>
   let t2 : List UInt8 := (bif (Op.bytesLess r0.1 r1.1 || decide ((r0.1 : List UInt8) = r1.1)) then r0.1 else r1.1)
   let t3 : List UInt8 := (bif !(Op.bytesLess r0.1 r1.1) then r0.1 else r1.1)
   let t4 : Bool := (decide (((Int.tmod s.1.2.2.2.2.1 4) : Int) = 0))
   bif t4 then
    match li (s.1.2.1, ()) with
    | none => none
    | some r5 =>
     match jl (r5.1, ()) with
     | none => none
     | some r6 =>
      match bX (r0.1, s.1, 0, [], [], [], [], [], [], 0, r6.1, ()) with
      | none => none
      | some (.inl z7) =>
       some ((z7.1, (z7.2.1, (z7.2.2.1, (z7.2.2.2.1, (z7.2.2.2.2.1, (z7.2.2.2.2.2.1, (z7.2.2.2.2.2.2.1, ()))))))), ())
      | some (.inr z7) =>
       none
   else
    let t5 : Bool := (decide (((Int.tmod s.1.2.2.2.2.1 16) : Int) = 1))
    bif t5 then
     match bX (r0.1, s.1, 0, [], [], [], [], [], [], 0, (r0.1, ([], ())), ()) with
     | none => none
     | some (.inl z6) =>
      some ((z6.1, (z6.2.1, (z6.2.2.1, (z6.2.2.2.1, (z6.2.2.2.2.1, (z6.2.2.2.2.2.1, (z6.2.2.2.2.2.2.1, ()))))))), ())
     | some (.inr z6) =>
      none
    else
     let t6 : Bool := (decide (((Int.tmod s.1.2.2.2.2.1 16) : Int) = 5))
     bif t6 then
      match bX (r0.1, s.1, 0, [], [], [], [], [], [], 0, ([], ([], ())), ()) with
      | none => none
      | some (.inl z7) =>
       some ((z7.1, (z7.2.1, (z7.2.2.1, (z7.2.2.2.1, (z7.2.2.2.2.1, (z7.2.2.2.2.2.1, (z7.2.2.2.2.2.2.1, ()))))))), ())
      | some (.inr z7) =>
       none
     else
      bif decide ((r0.1 : List UInt8) = r1.1) then
       match vw (r0.1, ()) with
       | none => none
       | some r7 =>
        match bX (r0.1, s.1, 0, [], [], [], [], [], [], 0, r7.1, ()) with
        | none => none
        | some (.inl z8) =>
         some ((z8.1, (z8.2.1, (z8.2.2.1, (z8.2.2.2.1, (z8.2.2.2.2.1, (z8.2.2.2.2.2.1, (z8.2.2.2.2.2.2.1, ()))))))), ())
        | some (.inr z8) =>
         none
      else
       match bX (r0.1, s.1, 0, [], [], [], [], [], [], 0, (t2, (t3, ())), ()) with
       | none => none
       | some (.inl z7) =>
        some ((z7.1, (z7.2.1, (z7.2.2.1, (z7.2.2.2.1, (z7.2.2.2.2.1, (z7.2.2.2.2.2.1, (z7.2.2.2.2.2.2.1, ()))))))), ())
       | some (.inr z7) =>
        none
def lM (s : (List (Int × Int × Int × Int × Int × Int × Unit)) × Int × Int × Bool × List ai × Unit) : Option (((List (Int × Int × Int × Int × Int × Int × Unit)) × Int × Int × List ai × Unit) ⊕ ((List ai × Unit) ⊕ Unit)) :=
 bif s.2.2.2.1 then
  bif decide (0 <= s.2.2.1) && decide (s.2.2.1 < (List.length s.1 : Int)) then
   let t0 : Int × Int × Int × Int × Int × Int × Unit := (List.getD s.1 (Int.toNat s.2.2.1) (0, (0, (0, (0, (0, (0, ())))))))
   match zk (t0, ()) with
   | none => none
   | some r1 =>
    bif (decide ((List.length s.2.2.2.2.1 + List.length ([r1.1] : List ai)) * 112 <= aw)) then
     let t2 : List ai := (s.2.2.2.2.1 ++ ([r1.1] : List ai))
     some (.inl (s.1, s.2.1, (IntKind.i64.wrap (s.2.2.1 + 1)), t2, ()))
    else none
  else none
 else
  some (.inr (.inl (s.2.2.2.2.1, ())))

def np (s : (List (Int × Int × Int × Int × Int × Int × Unit)) × Int × Int × List ai × Unit) : Option (((List (Int × Int × Int × Int × Int × Int × Unit)) × Int × Int × List ai × Unit) ⊕ ((List ai × Unit) ⊕ Unit)) :=
 let t0 : Bool := (decide (s.2.2.1 < ((List.length s.1) : Int)))
 bif t0 then
  lM (s.1, s.2.1, s.2.2.1, (decide (s.2.2.1 < s.2.1)), s.2.2.2.1, ())
 else
  lM (s.1, s.2.1, s.2.2.1, false, s.2.2.2.1, ())
def aaS (s : (List (Int × Int × Int × Int × Int × Int × Unit)) × Int × Int × List ai × Unit) : Option ((List ai × Unit) ⊕ Unit) := aP np s
def ade (s : (List (Int × Int × Int × Int × Int × Int × Unit)) × Int × Unit) : Option (List ai × Unit) :=
 match aaS (s.1, s.2.1, 0, [], ()) with
 | none => none
 | some (.inl z0) =>
  some (z0.1, ())
 | some (.inr z0) =>
  none
def zl (s : Int × Bool × ai × Unit) : Option (List aa × Unit) :=
 bif s.2.1 then
  match jl (s.2.2.1.2.2.2.2.1, ()) with
  | none => none
  | some r0 =>
   some (([r0.1] : List aa), ())
 else
  bif decide (s.1 = 6) then
   some (([s.2.2.1.2.2.2.1] : List aa), ())
  else
   some ([], ())

def aaf (s : ai × Unit) : Option (List aa × Unit) :=
 bif decide (s.1.1 = 4) then
  zl (s.1.1, true, s.1, ())
 else
  zl (s.1.1, (decide (s.1.1 = 5)), s.1, ())
def xc (s : Int × Bool × ai × Unit) : Option (List aa × Unit) :=
 bif s.2.1 then
  match vw (s.2.2.1.2.1, ()) with
  | none => none
  | some r0 =>
   some (([r0.1] : List aa), ())
 else
  bif decide (s.1 = 4) then
   match jl (s.2.2.1.2.2.2.2.1, ()) with
   | none => none
   | some r0 =>
    match jl (s.2.2.1.2.2.2.2.2.1, ()) with
    | none => none
    | some r1 =>
     some (([r0.1, r1.1] : List aa), ())
  else
   bif decide (s.1 = 5) then
    match jl (s.2.2.1.2.2.2.2.2.1, ()) with
    | none => none
    | some r0 =>
     some (([r0.1] : List aa), ())
   else
    some (([s.2.2.1.2.2.2.1] : List aa), ())

def xH (s : ai × Unit) : Option (List aa × Unit) :=
 bif decide (s.1.1 = 1) then
  xc (s.1.1, true, s.1, ())
 else
  xc (s.1.1, (decide (s.1.1 = 2)), s.1, ())
def xF (s : aa × aa × Unit) : Option (Bool × Unit) :=
 match sX (s.2.1, ()) with
 | none => none
 | some r0 =>
  bif !r0.1 then
   match sX (s.1, ()) with
   | none => none
   | some r1 =>
    bif !r1.1 then
     let t2 : Bool := (Op.bytesLess s.1.1 s.2.1.1 || decide ((s.1.1 : List UInt8) = s.2.1.1))
     bif t2 then
      match ze (s.1.2.1, s.2.1.2.1, ()) with
      | none => none
      | some r3 =>
       some ((!r3.1), ())
     else
      some (false, ())
    else
     some (false, ())
  else
   some (true, ())
def rC (s : Int × aa × List aa × Unit) : Option ((Int × aa × List aa × Unit) ⊕ ((Bool × Unit) ⊕ Unit)) :=
 let t0 : Bool := (decide (s.1 < ((List.length s.2.2.1) : Int)))
 bif t0 then
  bif decide (0 <= s.1) && decide (s.1 < (List.length s.2.2.1 : Int)) then
   let t1 : aa := (List.getD s.2.2.1 (Int.toNat s.1) ([], ([], ())))
   match xF (s.2.1, t1, ()) with
   | none => none
   | some r2 =>
    bif !r2.1 then
     some (.inr (.inl (false, ())))
    else
     some (.inl ((IntKind.i64.wrap (s.1 + 1)), s.2.1, s.2.2.1, ()))
  else none
 else
  some (.inr (.inr (())))
def aaT (s : Int × aa × List aa × Unit) : Option ((Bool × Unit) ⊕ Unit) := aP rC s
def adf (s : ai × aa × Unit) : Option (Bool × Unit) :=
 match aaf (s.1, ()) with
 | none => none
 | some r0 =>
  bif (decide ((List.length ([] : List aa) + List.length r0.1) * 32 <= aw)) then
   let t1 : List aa := ([] ++ r0.1)
   match xH (s.1, ()) with
   | none => none
   | some r2 =>
    bif decide ((List.length t1 + List.length r2.1) * 32 <= aw) then
     match aaT (0, s.2.1, (t1 ++ r2.1), ()) with
     | none => none
     | some (.inl z3) =>
      some (z3.1, ())
     | some (.inr z3) =>
      some (true, ())
    else none
  else none
def fk (s : Int × Int × Bool × aa × List ai × List ai × Unit) : Option ((Int × Int × aa × List ai × List ai × Unit) ⊕ ((List ai × Unit) ⊕ Unit)) :=
 bif s.2.2.1 then
  bif decide (0 <= s.2.1) && decide (s.2.1 < (List.length s.2.2.2.2.2.1 : Int)) then
   let t0 : ai := (List.getD s.2.2.2.2.2.1 (Int.toNat s.2.1) (0, ([], ([], (([], ([], ())), ([], ([], (0, ()))))))))
   match adf (t0, s.2.2.2.1, ()) with
   | none => none
   | some r1 =>
    bif r1.1 then
     bif decide (0 <= s.2.1) && decide (s.2.1 < (List.length s.2.2.2.2.2.1 : Int)) then
      let t2 : ai := (List.getD s.2.2.2.2.2.1 (Int.toNat s.2.1) (0, ([], ([], (([], ([], ())), ([], ([], (0, ()))))))))
      bif (decide ((List.length s.2.2.2.2.1 + List.length ([t2] : List ai)) * 112 <= aw)) then
       let t3 : List ai := (s.2.2.2.2.1 ++ ([t2] : List ai))
       some (.inl (s.1, (IntKind.i64.wrap (s.2.1 + 1)), s.2.2.2.1, t3, s.2.2.2.2.2.1, ()))
      else none
     else none
    else
     some (.inl (s.1, (IntKind.i64.wrap (s.2.1 + 1)), s.2.2.2.1, s.2.2.2.2.1, s.2.2.2.2.2.1, ()))
  else none
 else
  some (.inr (.inl (s.2.2.2.2.1, ())))

def gK (s : Int × Int × aa × List ai × List ai × Unit) : Option ((Int × Int × aa × List ai × List ai × Unit) ⊕ ((List ai × Unit) ⊕ Unit)) :=
 let t0 : Bool := (decide (s.2.1 < ((List.length s.2.2.2.2.1) : Int)))
 bif t0 then
  let t1 : Bool := (decide ((((List.length s.2.2.2.1) : Int) : Int) < s.1))
  fk (s.1, s.2.1, t1, s.2.2.1, s.2.2.2.1, s.2.2.2.2.1, ())
 else
  fk (s.1, s.2.1, false, s.2.2.1, s.2.2.2.1, s.2.2.2.2.1, ())
def v8 (s : Int × Int × aa × List ai × List ai × Unit) : Option ((List ai × Unit) ⊕ Unit) := aP gK s
def lj (s : (List (Int × Int × Int × Int × Int × Int × Unit)) × aa × Int × Unit) : Option (List ai × Unit) :=
 match ade (s.1, (IntKind.i64.wrap (3 * s.2.2.1)), ()) with
 | none => none
 | some r0 =>
  match v8 (s.2.2.1, 0, s.2.1, [], r0.1, ()) with
  | none => none
  | some (.inl z1) =>
   some (z1.1, ())
  | some (.inr z1) =>
   none
def uA (ref12_build_r : (aj × List ae × aa × (List (List (List UInt8))) × aF × Unit) -> Option (aO × Unit)) (s : List ae × (List (List (List UInt8))) × Int × List UInt8 × Bool × aj × aa × aF × List ak × Int × (List (List UInt8)) × Unit) : Option ((List ae × (List (List (List UInt8))) × Int × aj × aa × aF × List ak × Int × (List (List UInt8)) × Unit) ⊕ ((List ae × (List (List (List UInt8))) × aj × aa × aF × List ak × Int × (List (List UInt8)) × Unit) ⊕ Unit)) :=
 bif s.2.2.2.2.1 then
  bif (decide ((List.length s.2.2.2.2.2.2.2.2.2.2.1 + List.length ([s.2.2.2.1] : List (List UInt8))) * 16 <= aw)) then
   let t0 : List (List UInt8) := (s.2.2.2.2.2.2.2.2.2.2.1 ++ ([s.2.2.2.1] : List (List UInt8)))
   some (.inl (s.1, s.2.1, (IntKind.i64.wrap (s.2.2.1 + 1)), s.2.2.2.2.2.1, s.2.2.2.2.2.2.1, s.2.2.2.2.2.2.2.1, s.2.2.2.2.2.2.2.2.1, s.2.2.2.2.2.2.2.2.2.1, t0, ()))
  else none
 else
  some (.inl (s.1, s.2.1, (IntKind.i64.wrap (s.2.2.1 + 1)), s.2.2.2.2.2.1, s.2.2.2.2.2.2.1, s.2.2.2.2.2.2.2.1, s.2.2.2.2.2.2.2.2.1, s.2.2.2.2.2.2.2.2.2.1, s.2.2.2.2.2.2.2.2.2.2.1, ()))

def lO (ref12_build_r : (aj × List ae × aa × (List (List (List UInt8))) × aF × Unit) -> Option (aO × Unit)) (s : List ae × (List (List (List UInt8))) × Int × aj × aa × aF × List ak × Int × (List (List UInt8)) × Unit) : Option ((List ae × (List (List (List UInt8))) × Int × aj × aa × aF × List ak × Int × (List (List UInt8)) × Unit) ⊕ ((List ae × (List (List (List UInt8))) × aj × aa × aF × List ak × Int × (List (List UInt8)) × Unit) ⊕ Unit)) :=
 bif decide ((0 : Int) < (List.length s.2.1 : Int)) then
  let t0 : List (List UInt8) := (List.getD s.2.1 0 [])
  let t1 : Bool := (decide (s.2.2.1 < ((List.length t0) : Int)))
  bif t1 then
   bif decide ((0 : Int) < (List.length s.2.1 : Int)) then
    let t2 : List (List UInt8) := (List.getD s.2.1 0 [])
    bif decide (0 <= s.2.2.1) && decide (s.2.2.1 < (List.length t2 : Int)) then
     let t3 : List UInt8 := (List.getD t2 (Int.toNat s.2.2.1) [])
     let t4 : Bool := (!(Op.bytesLess t3 s.2.2.2.2.1.1 || decide ((t3 : List UInt8) = s.2.2.2.2.1.1)))
     bif t4 then
      match acf (s.2.2.2.2.1, t3, ()) with
      | none => none
      | some r5 =>
       uA ref12_build_r (s.1, s.2.1, s.2.2.1, t3, r5.1, s.2.2.2.1, s.2.2.2.2.1, s.2.2.2.2.2.1, s.2.2.2.2.2.2.1, s.2.2.2.2.2.2.2.1, s.2.2.2.2.2.2.2.2.1, ())
     else
      uA ref12_build_r (s.1, s.2.1, s.2.2.1, t3, false, s.2.2.2.1, s.2.2.2.2.1, s.2.2.2.2.2.1, s.2.2.2.2.2.2.1, s.2.2.2.2.2.2.2.1, s.2.2.2.2.2.2.2.2.1, ())
    else none
   else none
  else
   some (.inr (.inl (s.1, s.2.1, s.2.2.2.1, s.2.2.2.2.1, s.2.2.2.2.2.1, s.2.2.2.2.2.2.1, s.2.2.2.2.2.2.2.1, s.2.2.2.2.2.2.2.2.1, ())))
 else none
def uD (ref12_build_r : (aj × List ae × aa × (List (List (List UInt8))) × aF × Unit) -> Option (aO × Unit)) (s : List ae × (List (List (List UInt8))) × Int × aj × aa × aF × List ak × Int × (List (List UInt8)) × Unit) : Option ((List ae × (List (List (List UInt8))) × aj × aa × aF × List ak × Int × (List (List UInt8)) × Unit) ⊕ Unit) := aP (lO ref12_build_r) s
def kc (ref12_build_r : (aj × List ae × aa × (List (List (List UInt8))) × aF × Unit) -> Option (aO × Unit)) (s : List ae × (List (List (List UInt8))) × Int × aj × aa × aF × List ak × Int × List ae × List ai × List aa × (List (List UInt8)) × List Int × List api_Sum × Unit) : Option ((List ae × (List (List (List UInt8))) × Int × aj × aa × aF × List ak × Int × List ae × List ai × List aa × (List (List UInt8)) × List Int × List api_Sum × Unit) ⊕ ((aj × aa × aF × List ak × Int × List ae × List ai × (List (List UInt8)) × List Int × List api_Sum × Unit) ⊕ Unit)) :=
 let t0 : Int := ((List.length s.2.2.2.2.2.2.2.2.2.2.1) : Int)
 bif decide (s.2.2.1 < t0) then
  bif decide (0 <= s.2.2.1) && decide (s.2.2.1 < (List.length s.2.2.2.2.2.2.2.2.2.2.1 : Int)) then
   let t1 : aa := (List.getD s.2.2.2.2.2.2.2.2.2.2.1 (Int.toNat s.2.2.1) ([], ([], ())))
   bif (decide ((1 : Int) <= (List.length s.2.1 : Int)) && decide (((List.length s.2.1 : Int) : Int) <= (List.length s.2.1 : Int))) then
    let t2 : List (List (List UInt8)) := (List.drop (Int.toNat 1) (List.take (Int.toNat (List.length s.2.1 : Int)) s.2.1))
    match ref12_build_r (s.2.2.2.1, s.1, t1, t2, s.2.2.2.2.2.1, ()) with
    | none => none
    | some r3 =>
     match v6 (r3.1.1, r3.1.2.1, ()) with
     | none => none
     | some r4 =>
      bif (decide ((List.length s.2.2.2.2.2.2.2.2.2.2.2.2.1 + List.length ([r3.1.2.1] : List Int)) * 8 <= aw)) then
       let t5 : List Int := (s.2.2.2.2.2.2.2.2.2.2.2.2.1 ++ ([r3.1.2.1] : List Int))
       match sY (r4.1, ()) with
       | none => none
       | some r6 =>
        bif (decide ((List.length s.2.2.2.2.2.2.2.2.2.2.2.2.2.1 + List.length ([r6.1] : List api_Sum)) * 32 <= aw)) then
         let t7 : List api_Sum := (s.2.2.2.2.2.2.2.2.2.2.2.2.2.1 ++ ([r6.1] : List api_Sum))
         some (.inl (s.1, s.2.1, (IntKind.i64.wrap (s.2.2.1 + 1)), r3.1.1, s.2.2.2.2.1, s.2.2.2.2.2.1, s.2.2.2.2.2.2.1, s.2.2.2.2.2.2.2.1, s.2.2.2.2.2.2.2.2.1, s.2.2.2.2.2.2.2.2.2.1, s.2.2.2.2.2.2.2.2.2.2.1, s.2.2.2.2.2.2.2.2.2.2.2.1, t5, t7, ()))
        else none
      else none
   else none
  else none
 else
  some (.inr (.inl (s.2.2.2.1, s.2.2.2.2.1, s.2.2.2.2.2.1, s.2.2.2.2.2.2.1, s.2.2.2.2.2.2.2.1, s.2.2.2.2.2.2.2.2.1, s.2.2.2.2.2.2.2.2.2.1, s.2.2.2.2.2.2.2.2.2.2.2.1, s.2.2.2.2.2.2.2.2.2.2.2.2.1, s.2.2.2.2.2.2.2.2.2.2.2.2.2.1, ())))
def uE (ref12_build_r : (aj × List ae × aa × (List (List (List UInt8))) × aF × Unit) -> Option (aO × Unit)) (s : List ae × (List (List (List UInt8))) × Int × aj × aa × aF × List ak × Int × List ae × List ai × List aa × (List (List UInt8)) × List Int × List api_Sum × Unit) : Option ((aj × aa × aF × List ak × Int × List ae × List ai × (List (List UInt8)) × List Int × List api_Sum × Unit) ⊕ Unit) := aP (kc ref12_build_r) s
def lP (ref12_build_r : (aj × List ae × aa × (List (List (List UInt8))) × aF × Unit) -> Option (aO × Unit)) (s : Int × List ak × Int × List ae × eA × aj × (List (List UInt8)) × List Int × List api_Sum × List ai × Unit) : Option ((Int × List ak × Int × List ae × eA × aj × (List (List UInt8)) × List Int × List api_Sum × List ai × Unit) ⊕ ((List ak × Int × eA × aj × Unit) ⊕ Unit)) :=
 let t0 : Bool := (decide (s.1 < ((List.length s.2.2.2.2.2.2.2.1) : Int)))
 bif t0 then
  bif decide (0 <= s.1) && decide (s.1 < (List.length s.2.2.2.2.2.2.2.1 : Int)) then
   let t1 : Int := (List.getD s.2.2.2.2.2.2.2.1 (Int.toNat s.1) 0)
   match vz (s.2.2.2.2.2.1, t1, ()) with
   | none => none
   | some r2 =>
    some (.inl ((IntKind.i64.wrap (s.1 + 1)), s.2.1, s.2.2.1, s.2.2.2.1, s.2.2.2.2.1, r2.1, s.2.2.2.2.2.2.1, s.2.2.2.2.2.2.2.1, s.2.2.2.2.2.2.2.2.1, s.2.2.2.2.2.2.2.2.2.1, ()))
  else none
 else
  some (.inr (.inl (s.2.1, s.2.2.1, s.2.2.2.2.1, s.2.2.2.2.2.1, ())))
def uF (ref12_build_r : (aj × List ae × aa × (List (List (List UInt8))) × aF × Unit) -> Option (aO × Unit)) (s : Int × List ak × Int × List ae × eA × aj × (List (List UInt8)) × List Int × List api_Sum × List ai × Unit) : Option ((List ak × Int × eA × aj × Unit) ⊕ Unit) := aP (lP ref12_build_r) s
def kd (ref12_build_r : (aj × List ae × aa × (List (List (List UInt8))) × aF × Unit) -> Option (aO × Unit)) (s : aj × List ak × Int × List ae × (List (List UInt8)) × List Int × List api_Sum × List ai × Unit) : Option (aO × Unit) :=
 match sZ (s.1, (s.2.2.2.1, (s.2.2.2.2.1, (s.2.2.2.2.2.1, (s.2.2.2.2.2.2.1, (s.2.2.2.2.2.2.2.1, ()))))), ()) with
 | none => none
 | some r0 =>
  match uF ref12_build_r (0, s.2.1, s.2.2.1, s.2.2.2.1, r0.1, r0.1.1, s.2.2.2.2.1, s.2.2.2.2.2.1, s.2.2.2.2.2.2.1, s.2.2.2.2.2.2.2.1, ()) with
  | none => none
  | some (.inl z1) =>
   some ((z1.2.2.2.1, (z1.2.2.1.2.1, ())), ())
  | some (.inr z1) =>
   none
def py (ref12_build_r : (aj × List ae × aa × (List (List (List UInt8))) × aF × Unit) -> Option (aO × Unit)) (s : Int × aj × aa × aF × List ak × Int × List ae × List ai × (List (List UInt8)) × List Int × List api_Sum × Unit) : Option (aO × Unit) :=
 bif decide (0 <= s.1) && decide (s.1 < 4) then
  bif (Nat.beq (Int.toNat s.1) 3) then
   match lj (s.2.2.2.1.2.1.2.2.2.1, s.2.2.1, 5, ()) with
   | none => none
   | some r0 =>
    kd ref12_build_r (s.2.1, s.2.2.2.2.1, s.2.2.2.2.2.1, s.2.2.2.2.2.2.1, s.2.2.2.2.2.2.2.2.1, s.2.2.2.2.2.2.2.2.2.1, s.2.2.2.2.2.2.2.2.2.2.1, r0.1, ())
  else
   bif (Nat.beq (Int.toNat s.1) 2) then
    match lj (s.2.2.2.1.2.1.2.2.1, s.2.2.1, 5, ()) with
    | none => none
    | some r0 =>
     kd ref12_build_r (s.2.1, s.2.2.2.2.1, s.2.2.2.2.2.1, s.2.2.2.2.2.2.1, s.2.2.2.2.2.2.2.2.1, s.2.2.2.2.2.2.2.2.2.1, s.2.2.2.2.2.2.2.2.2.2.1, r0.1, ())
   else
    bif (Nat.beq (Int.toNat s.1) 1) then
     match lj (s.2.2.2.1.2.1.2.1, s.2.2.1, 5, ()) with
     | none => none
     | some r0 =>
      kd ref12_build_r (s.2.1, s.2.2.2.2.1, s.2.2.2.2.2.1, s.2.2.2.2.2.2.1, s.2.2.2.2.2.2.2.2.1, s.2.2.2.2.2.2.2.2.2.1, s.2.2.2.2.2.2.2.2.2.2.1, r0.1, ())
    else
     bif (Nat.beq (Int.toNat s.1) 0) then
      match lj (s.2.2.2.1.2.1.1, s.2.2.1, 5, ()) with
      | none => none
      | some r0 =>
       kd ref12_build_r (s.2.1, s.2.2.2.2.1, s.2.2.2.2.2.1, s.2.2.2.2.2.2.1, s.2.2.2.2.2.2.2.2.1, s.2.2.2.2.2.2.2.2.2.1, s.2.2.2.2.2.2.2.2.2.2.1, r0.1, ())
     else none
 else none
def uC (ref12_build_r : (aj × List ae × aa × (List (List (List UInt8))) × aF × Unit) -> Option (aO × Unit)) (s : List ae × (List (List (List UInt8))) × aj × aa × aF × List ak × Int × (List (List UInt8)) × Unit) : Option (aO × Unit) :=
 let t0 : Bool := (decide ((((List.length s.2.1) : Int) : Int) = 0))
 bif t0 then
  match aae (s.1, s.2.2.2.1, ()) with
  | none => none
  | some r1 =>
   match sZ (s.2.2.1, (r1.1, (s.2.2.2.2.2.2.2.1, ([], ([], ([], ()))))), ()) with
   | none => none
   | some r2 =>
    some ((r2.1.1, (r2.1.2.1, ())), ())
 else
  let t1 : Int := (IntKind.i64.wrap (((List.length s.2.2.2.2.2.2.2.1) : Int) + 1))
  bif (decide (0 <= t1) && decide (t1 <= t1) && decide (t1 * 8 <= (aw : Int))) then
   match aag ((([] : List ae), (s.2.2.2.2.2.2.2.1, ((List.replicate (Int.toNat t1) (0 : Int)), (([] : List api_Sum), (([] : List ai), ()))))), s.2.2.2.1, ()) with
   | none => none
   | some r2 =>
    match uE ref12_build_r (s.1, s.2.1, 0, s.2.2.1, s.2.2.2.1, s.2.2.2.2.1, s.2.2.2.2.2.1, s.2.2.2.2.2.2.1, [], [], r2.1, s.2.2.2.2.2.2.2.1, [], [], ()) with
    | none => none
    | some (.inl z3) =>
     let t4 : Bool := (!(Ty.eqb ac z3.2.1 ([], ([], ()))))
     bif t4 then
      let t5 : Int := (Int.tmod ((List.length z3.2.1.1) : Int) 3)
      py ref12_build_r ((IntKind.i64.wrap (1 + t5)), z3.1, z3.2.1, z3.2.2.1, z3.2.2.2.1, z3.2.2.2.2.1, z3.2.2.2.2.2.1, z3.2.2.2.2.2.2.1, z3.2.2.2.2.2.2.2.1, z3.2.2.2.2.2.2.2.2.1, z3.2.2.2.2.2.2.2.2.2.1, ())
     else
      py ref12_build_r (0, z3.1, z3.2.1, z3.2.2.1, z3.2.2.2.1, z3.2.2.2.2.1, z3.2.2.2.2.2.1, z3.2.2.2.2.2.2.1, z3.2.2.2.2.2.2.2.1, z3.2.2.2.2.2.2.2.2.1, z3.2.2.2.2.2.2.2.2.2.1, ())
    | some (.inr z3) =>
     none
  else none

def gJ (ref12_build_r : (aj × List ae × aa × (List (List (List UInt8))) × aF × Unit) -> Option (aO × Unit)) (s : aj × List ae × aa × (List (List (List UInt8))) × aF × Unit) : Option (aO × Unit) :=
 let t0 : Bool := (decide ((((List.length s.2.2.2.1) : Int) : Int) > 0))
 bif t0 then
  match uD ref12_build_r (s.2.1, s.2.2.2.1, 0, s.1, s.2.2.1, s.2.2.2.2.1, [], 0, [], ()) with
  | none => none
  | some (.inl z1) =>
   uC ref12_build_r (z1.1, z1.2.1, z1.2.2.1, z1.2.2.2.1, z1.2.2.2.2.1, z1.2.2.2.2.2.1, z1.2.2.2.2.2.2.1, z1.2.2.2.2.2.2.2.1, ())
  | some (.inr z1) =>
   none
 else
  uC ref12_build_r (s.2.1, s.2.2.2.1, s.1, s.2.2.1, s.2.2.2.2.1, [], 0, [], ())
def jP : Nat -> (aj × List ae × aa × (List (List (List UInt8))) × aF × Unit) -> Option (aO × Unit)
 | 0, _ => none
 | n + 1, s => gJ (jP n) s
def aah (s : aj × List ae × aa × (List (List (List UInt8))) × aF × Unit) : Option (aO × Unit) := jP aqr s
def adn (s : aF × Unit) : Option (az × Unit) :=
 match zi (s.1.1, ()) with
 | none => none
 | some r0 =>
  let t1 : Int := IntKind.i64.wrap (Int.tmod s.1.2.2.1 4)
  bif (decide (0 <= t1) && decide (t1 < (List.length ([[], ([([([97, 47, 98, 47] : List UInt8), ([98, 47] : List UInt8), ([99, 47] : List UInt8)] : List (List UInt8))] : List (List (List UInt8))), ([([([98, 47] : List UInt8)] : List (List UInt8)), ([([97, 47, 2] : List UInt8), ([97, 47, 98, 47] : List UInt8), ([99, 47] : List UInt8)] : List (List UInt8))] : List (List (List UInt8))), ([([([97, 47, 98, 47] : List UInt8), ([98, 47] : List UInt8)] : List (List UInt8)), ([([97, 47, 98, 47, 2] : List UInt8), ([99, 47] : List UInt8), ([100, 47] : List UInt8)] : List (List UInt8))] : List (List (List UInt8)))] : List (List (List (List UInt8)))) : Int))) then
   let t2 : List (List (List UInt8)) := (List.getD ([[], ([([([97, 47, 98, 47] : List UInt8), ([98, 47] : List UInt8), ([99, 47] : List UInt8)] : List (List UInt8))] : List (List (List UInt8))), ([([([98, 47] : List UInt8)] : List (List UInt8)), ([([97, 47, 2] : List UInt8), ([97, 47, 98, 47] : List UInt8), ([99, 47] : List UInt8)] : List (List UInt8))] : List (List (List UInt8))), ([([([97, 47, 98, 47] : List UInt8), ([98, 47] : List UInt8)] : List (List UInt8)), ([([97, 47, 98, 47, 2] : List UInt8), ([99, 47] : List UInt8), ([100, 47] : List UInt8)] : List (List UInt8))] : List (List (List UInt8)))] : List (List (List (List UInt8)))) (Int.toNat t1) [])
   match aah (([], ()), r0.1, ([], ([], ())), t2, s.1, ()) with
   | none => none
   | some r3 =>
    let t4 : Int := (IntKind.u8.wrap (Int.tdiv s.1.2.2.1 4))
    let t5 : Int := IntKind.i64.wrap (Int.tmod t4 4)
    let t6 : Int := (IntKind.u8.wrap (Int.tdiv s.1.2.2.1 16))
    let t7 : Int := IntKind.i64.wrap (Int.tmod t6 3)
    let t8 : Int := (IntKind.u8.wrap (Int.tdiv s.1.2.2.1 64))
    let t9 : Int := IntKind.i64.wrap (1 + (IntKind.i64.wrap t8))
    some ((r3.1.1, (r3.1.2.1, (((IntKind.i64.wrap (2 + t5)), ((IntKind.i64.wrap (2 + t7)), (t9, ()))), ()))), ())
  else none
def ai5 (s : Int × (List (List UInt8)) × Unit) : Option ((Int × (List (List UInt8)) × Unit) ⊕ (((List (List UInt8)) × Unit) ⊕ Unit)) :=
 bif decide (s.1 < 20) then
  match qm (s.1, ()) with
  | none => none
  | some r0 =>
   match qm (s.1, ()) with
   | none => none
   | some r1 =>
    bif decide (List.length ([99, 47] : List UInt8) + List.length r1.1 <= aw) then
     match qm (s.1, ()) with
     | none => none
     | some r2 =>
      bif (decide ((2 : Int) <= (List.length r2.1 : Int)) && decide (((List.length r2.1 : Int) : Int) <= (List.length r2.1 : Int))) then
       let t3 : List UInt8 := (List.drop (Int.toNat 2) (List.take (Int.toNat (List.length r2.1 : Int)) r2.1))
       bif decide (List.length ([100, 47] : List UInt8) + List.length t3 <= aw) then
        bif (decide ((List.length s.2.1 + List.length ([r0.1, (([99, 47] : List UInt8) ++ r1.1), (([100, 47] : List UInt8) ++ t3)] : List (List UInt8))) * 16 <= aw)) then
         let t4 : List (List UInt8) := (s.2.1 ++ ([r0.1, (([99, 47] : List UInt8) ++ r1.1), (([100, 47] : List UInt8) ++ t3)] : List (List UInt8)))
         some (.inl ((IntKind.u8.wrap (s.1 + 1)), t4, ()))
        else none
       else none
      else none
    else none
 else
  some (.inr (.inl (s.2.1, ())))
def ai7 (s : Int × (List (List UInt8)) × Unit) : Option (((List (List UInt8)) × Unit) ⊕ Unit) := aP ai5 s
def sz (s : Unit) : Option ((List (List UInt8)) × Unit) :=
 match ai7 (0, ([[], ([97] : List UInt8), ([97, 47, 98] : List UInt8), ([99, 47, 98, 47, 1] : List UInt8), ([100, 47, 98, 47, 2, 0, 1] : List UInt8), ([122, 122] : List UInt8)] : List (List UInt8)), ()) with
 | none => none
 | some (.inl z0) =>
  some (z0.1, ())
 | some (.inr z0) =>
  none
def aof (s : az × List UInt8 × Unit) : Option (lN × Unit) :=
 match zq (s.1, s.2.1, ()) with
 | none => none
 | some r0 =>
  some ((r0.1, (r0.2.1, (r0.2.2.1, (r0.2.2.2.1, ())))), ())
def mT (s : Int × az × api_Node × Unit) : Option ((Int × az × api_Node × Unit) ⊕ ((Int × Unit) ⊕ Unit)) :=
 let t0 : Bool := (decide ((((List.length s.2.2.1.2.2.1) : Int) : Int) > 0))
 bif t0 then
  bif decide ((0 : Int) < (List.length s.2.2.1.2.2.1 : Int)) then
   match v6 (s.2.1.1, (List.getD s.2.2.1.2.2.1 0 0), ()) with
   | none => none
   | some r1 =>
    some (.inl ((IntKind.i64.wrap (s.1 + 1)), s.2.1, r1.1, ()))
  else none
 else
  some (.inr (.inl (s.1, ())))
def xd (s : Int × az × api_Node × Unit) : Option ((Int × Unit) ⊕ Unit) := aP mT s
def xK (s : az × Unit) : Option (Int × Unit) :=
 match v6 (s.1.1, s.1.2.1, ()) with
 | none => none
 | some r0 =>
  match xd (1, s.1, r0.1, ()) with
  | none => none
  | some (.inl z1) =>
   some (z1.1, ())
  | some (.inr z1) =>
   none
def lB (s : Bool × Int × Int × az × (List (List UInt8)) × Unit) : Option ((Bool × Int × Int × az × (List (List UInt8)) × Unit) ⊕ ((Bool × Unit) ⊕ (Bool × Int × az × Unit))) :=
 let t0 : Bool := (decide (s.2.2.1 < ((List.length s.2.2.2.2.1) : Int)))
 bif t0 then
  bif decide (0 <= s.2.2.1) && decide (s.2.2.1 < (List.length s.2.2.2.2.1 : Int)) then
   let t1 : List UInt8 := (List.getD s.2.2.2.2.1 (Int.toNat s.2.2.1) [])
   match aof (s.2.2.2.1, t1, ()) with
   | none => none
   | some r2 =>
    let t3 : Bool := (!decide (r2.1.2.2.2.1 = 0))
    bif !t3 then
     let t4 : Bool := decide (r2.1.2.2.1 < 1)
     bif !t4 then
      bif (!(decide (r2.1.2.2.1 > s.2.1))) then
       bif r2.1.2.1 then
        bif decide (0 <= s.2.2.1) && decide (s.2.2.1 < (List.length s.2.2.2.2.1 : Int)) then
         let t5 : List UInt8 := (List.getD s.2.2.2.2.1 (Int.toNat s.2.2.1) [])
         bif (!(!decide ((r2.1.1.1 : List UInt8) = t5))) then
          bif !r2.1.2.1 then
           let t6 : Bool := (!(Ty.eqb af r2.1.1 ([], ([], (0, ())))))
           bif t6 then
            some (.inr (.inl (false, ())))
           else
            some (.inl (s.1, s.2.1, (IntKind.i64.wrap (s.2.2.1 + 2)), s.2.2.2.1, s.2.2.2.2.1, ()))
          else
           some (.inl (s.1, s.2.1, (IntKind.i64.wrap (s.2.2.1 + 2)), s.2.2.2.1, s.2.2.2.2.1, ()))
         else
          some (.inr (.inl (false, ())))
        else none
       else
        bif !r2.1.2.1 then
         let t5 : Bool := (!(Ty.eqb af r2.1.1 ([], ([], (0, ())))))
         bif t5 then
          some (.inr (.inl (false, ())))
         else
          some (.inl (s.1, s.2.1, (IntKind.i64.wrap (s.2.2.1 + 2)), s.2.2.2.1, s.2.2.2.2.1, ()))
        else
         some (.inl (s.1, s.2.1, (IntKind.i64.wrap (s.2.2.1 + 2)), s.2.2.2.1, s.2.2.2.2.1, ()))
      else
       some (.inr (.inl (false, ())))
     else
      some (.inr (.inl (false, ())))
    else
     some (.inr (.inl (false, ())))
  else none
 else
  some (.inr (.inr (s.1, s.2.1, s.2.2.2.1, ())))
def qT (s : Bool × Int × Int × az × (List (List UInt8)) × Unit) : Option ((Bool × Unit) ⊕ (Bool × Int × az × Unit)) := aP lB s
def jO (s : aF × Int × Unit) : Option (Bool × Unit) :=
 match acP (()) with
 | none => none
 | some r0 =>
  match adn (s.1, ()) with
  | none => none
  | some r1 =>
   match tj (r1.1, ()) with
   | none => none
   | some r2 =>
    match sz (()) with
    | none => none
    | some r3 =>
     let t4 : Int := IntKind.i64.wrap (Int.tmod s.2.1 2)
     match qT (r0.1, r2.1, t4, r1.1, r3.1, ()) with
     | none => none
     | some (.inl z5) =>
      some (z5.1, ())
     | some (.inr z5) =>
      bif z5.1 then
       match xK (z5.2.2.1, ()) with
       | none => none
       | some r6 =>
        some ((decide (z5.2.1 = r6.1)), ())
      else
       some (false, ())


end D
