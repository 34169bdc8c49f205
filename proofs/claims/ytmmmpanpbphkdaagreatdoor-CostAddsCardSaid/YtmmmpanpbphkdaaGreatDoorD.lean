/- Plain functions, by program. -/
import Derived.Test.YtmmmpanpbphkdaaGreatDoorDa
set_option linter.unusedVariables false
open Go Go.X
namespace D
def nW (s : RA) : Option (RA ⊕ ((Int × Int × au × Unit) ⊕ (au × api_Node × List aj × Unit))) :=
 bif decide (s.2.2.1 < s.2.1) then
  bif decide (0 <= s.2.2.1) && decide (s.2.2.1 < (List.length s.1 : Int)) then
   let t0 := (List.getD s.1 (Int.toNat s.2.2.1) 0)
   match lz (s.2.2.2.1, t0, ()) with
   | none => none
   | some r1 =>
    bif !r1.1 then
     some (.inr (.inl (0, 110, s.2.2.2.1, ())))
    else
     some (.inl (s.1, s.2.1, (IntKind.i64.wrap (s.2.2.1 + 1)), s.2.2.2.1, s.2.2.2.2.1, s.2.2.2.2.2.1, ()))
  else none
 else
  some (.inr (.inr (s.2.2.2.1, s.2.2.2.2.1, s.2.2.2.2.2.1, ())))
def xg := aR nW
def nX (s : RB) : Option (RB ⊕ ((Int × List aj × List aj × Unit) ⊕ Unit)) :=
 bif decide (s.2.2.2.1 < s.2.2.1) then
  bif decide (0 <= s.2.2.2.1) && decide (s.2.2.2.1 < (List.length s.2.1 : Int)) then
   let t0 := (List.getD s.2.1 (Int.toNat s.2.2.2.1) 0)
   bif decide (0 <= t0) && decide (t0 < (List.length s.2.2.2.2.2.1 : Int)) then
    let t1 := (List.getD s.2.2.2.2.2.1 (Int.toNat t0) (false, (false, (0, (([], ([], ([], ([], ([], ()))))), ())))))
    let t2 := IntKind.i64.wrap (t1.2.2.1 + 1)
    bif decide (0 <= t0) && decide (t0 < (List.length s.2.2.2.2.2.1 : Int)) then
     let t3 := (List.set s.2.2.2.2.2.1 (Int.toNat t0) ((List.getD s.2.2.2.2.2.1 (Int.toNat t0) (false, (false, (0, (([], ([], ([], ([], ([], ()))))), ()))))).1, ((List.getD s.2.2.2.2.2.1 (Int.toNat t0) (false, (false, (0, (([], ([], ([], ([], ([], ()))))), ()))))).2.1, (t2, (List.getD s.2.2.2.2.2.1 (Int.toNat t0) (false, (false, (0, (([], ([], ([], ([], ([], ()))))), ()))))).2.2.2))))
     let t4 := IntKind.i64.wrap (s.2.2.2.1 + 1)
     some (.inl (s.1, s.2.1, s.2.2.1, t4, s.2.2.2.2.1, t3, ()))
    else none
   else none
  else none
 else
  some (.inr (.inl (s.1, s.2.2.2.2.1, s.2.2.2.2.2.1, ())))
def xh := aR nX
def xf (s : Int × api_Node × List aj × List aj × Unit) : Option co :=
 bif decide (0 <= s.1) && decide (s.1 < (List.length s.2.2.2.1 : Int)) then
  let t0 := (List.set s.2.2.2.1 (Int.toNat s.1) (true, (false, (1, (s.2.1, ())))))
  match xh (s.1, s.2.1.2.2.1, ((List.length s.2.1.2.2.1) : Int), 0, s.2.2.1, t0, ()) with
  | none => none
  | some (.inl z1) =>
   some ((z1.2.2.1, ()), z1.1, 0, ())
  | some (.inr z1) =>
   none
 else none
def xe (s : Int × au × api_Node × List aj × Unit) : Option co :=
 bif decide (s.1 >= 4096) then
  some (s.2.1, 0, 111, ())
 else
  match qK (s.2.1, ()) with
  | none => none
  | some r0 =>
   let t1 := (decide (s.1 = ((List.length r0.1) : Int)))
   bif t1 then
    bif (decide ((List.length r0.1 + List.length ([(false, (false, (0, (([], ([], ([], ([], ([], ()))))), ()))))] : List aj)) * 136 <= ai)) then
     let t2 : List aj := (r0.1 ++ ([(false, (false, (0, (([], ([], ([], ([], ([], ()))))), ()))))] : List aj))
     xf (s.1, s.2.2.1, s.2.2.2.1, t2, ())
    else none
   else
    xf (s.1, s.2.2.1, s.2.2.2.1, r0.1, ())

def qJ (s : au × api_Node × Unit) : Option co :=
 match xg (s.2.1.2.2.1, ((List.length s.2.1.2.2.1) : Int), 0, s.1, s.2.1, [], ()) with
 | none => none
 | some (.inl z0) =>
  some (z0.2.2.1, z0.1, z0.2.1, ())
 | some (.inr z0) =>
  match bU (z0.1.1, ()) with
  | none => none
  | some r1 =>
   bif decide (r1.1 < 0) then
    xe (((List.length z0.1.1) : Int), z0.1, z0.2.1, z0.2.2.1, ())
   else
    xe (r1.1, z0.1, z0.2.1, z0.2.2.1, ())
def afY (s : aT × Unit) : Option (am × Int × Unit) :=
 match afZ (s.1, ()) with
 | none => none
 | some r0 =>
  bif !r0.1 then
   some ((([], ()), (0, ((0, (0, (0, ()))), ()))), 120, ())
  else
   match qJ (([], ()), ([], ([], ([], ([], ([], ()))))), ()) with
   | none => none
   | some r1 =>
    some ((r1.1, (r1.2.1, (s.1, ()))), r1.2.2.1, ())
def aaj (s : bF) : Option (Int × Unit) :=
 let t0 : Int := (if (10000 : Int) < s.1 then 10000 else s.1)
 let t1 : Int := (if (0 : Int) < t0 then t0 else 0)
 let t2 : Int := (if (10000 : Int) < s.2.1 then 10000 else s.2.1)
 let t3 : Int := (if (0 : Int) < t2 then t2 else 0)
 let t4 := (IntKind.i64.wrap ((IntKind.i64.wrap (t1 + 1)) * (IntKind.i64.wrap (t1 + 1))))
 let t5 := (IntKind.i64.wrap (t4 * (IntKind.i64.wrap (t3 + 1))))
 some (t5, ())
def lX (x_ref12_Of : (List aa × (List (List UInt8)) × List ae × Unit) -> Option (am × Unit)) (x_cost_Weight : (am × Unit) -> Option bF) (x_cost_Reads : (am × List UInt8 × Unit) -> Option bF) (x_cost_Written : (au × au × Unit) -> Option (Int × Unit)) (x_cost_Bill : (am × am × Int × Unit) -> Option hK) (x_tree_New : (aT × Unit) -> Option (am × Int × Unit)) (x_cost_Limit : bF -> Option (Int × Unit)) (s : Unit) : Option (Bool × Unit) :=
 match x_ref12_Of ([], ([([98] : List UInt8)] : List (List UInt8)), ([(1, (([97] : List UInt8), ([], (([], ([], ())), ([], ([], (0, ()))))))), (6, ([], ([], (([], ([], ())), ([], ([], (0, ())))))))] : List ae), ()) with
 | none => none
 | some r0 =>
  match x_cost_Weight (r0.1, ()) with
  | none => none
  | some r1 =>
   match x_cost_Reads (r0.1, ([97] : List UInt8), ()) with
   | none => none
   | some r2 =>
    match x_cost_Reads (r0.1, ([99] : List UInt8), ()) with
    | none => none
    | some r3 =>
     match x_cost_Bill (r0.1, r0.1, 5, ()) with
     | none => none
     | some r4 =>
      match x_tree_New (r0.1.2.2.1, ()) with
      | none => none
      | some r5 =>
       match x_cost_Weight (r5.1, ()) with
       | none => none
       | some r6 =>
        bif decide (r1.1 = 3) then
         bif decide (r1.2.1 = 0) then
          bif decide (r2.1 = 1) then
           bif decide (r2.2.1 = 0) then
            bif decide (r3.1 = 2) then
             bif decide (r3.2.1 = 0) then
              let t7 := (Ty.eqb bh r4.1 (5, (0, ())))
              bif t7 then
               bif decide (r5.2.1 = 0) then
                bif decide (r6.1 = 0) then
                 bif decide (r6.2.1 = 0) then
                  match x_cost_Written (([], ()), r0.1.1, ()) with
                  | none => none
                  | some r8 =>
                   bif decide (r8.1 = 3) then
                    match x_cost_Written (r0.1.1, ([], ()), ()) with
                    | none => none
                    | some r9 =>
                     bif decide (r9.1 = 0) then
                      match x_cost_Limit (2, 3, ()) with
                      | none => none
                      | some r10 =>
                       bif decide (r10.1 = 36) then
                        match x_cost_Limit ((-1 : Int), 0, ()) with
                        | none => none
                        | some r11 =>
                         some ((decide (r11.1 = 1)), ())
                       else
                        some (false, ())
                     else
                      some (false, ())
                   else
                    some (false, ())
                 else
                  some (false, ())
                else
                 some (false, ())
               else
                some (false, ())
              else
               some (false, ())
             else
              some (false, ())
            else
             some (false, ())
           else
            some (false, ())
          else
           some (false, ())
         else
          some (false, ())
        else
         some (false, ())
def uA (s : Unit) : Option (Bool × Unit) := lX af7 eh aak iA acl afY aaj s
def pD (s : Int × Unit) : Option (List UInt8 × Unit) :=
 let t0 := (decide (((Int.tmod s.1 24) : Int) < 20))
 bif t0 then
  let t1 := (IntKind.u8.wrap (Int.tdiv (Int.tmod s.1 24) 5))
  bif (decide (0 <= t1) && decide (t1 < (List.length ([([97, 47] : List UInt8), ([98, 47] : List UInt8), ([97, 47, 98, 47] : List UInt8), ([99, 47] : List UInt8)] : List (List UInt8)) : Int))) then
   let t2 := (List.getD ([([97, 47] : List UInt8), ([98, 47] : List UInt8), ([97, 47, 98, 47] : List UInt8), ([99, 47] : List UInt8)] : List (List UInt8)) (Int.toNat t1) [])
   let t3 : Int := (Int.tmod (Int.tmod s.1 24) 5)
   bif (decide (0 <= t3) && decide (t3 < (List.length ([([1] : List UInt8), ([2, 0, 0] : List UInt8), ([2, 0, 1] : List UInt8), ([2, 0, 2] : List UInt8), ([3, 120] : List UInt8)] : List (List UInt8)) : Int))) then
    let t4 := (List.getD ([([1] : List UInt8), ([2, 0, 0] : List UInt8), ([2, 0, 1] : List UInt8), ([2, 0, 2] : List UInt8), ([3, 120] : List UInt8)] : List (List UInt8)) (Int.toNat t3) [])
    bif decide (List.length t2 + List.length t4 <= ai) then
     some ((t2 ++ t4), ())
    else none
   else none
  else none
 else
  let t1 := (IntKind.u8.wrap ((Int.tmod s.1 24) - 20))
  bif (decide (0 <= t1) && decide (t1 < (List.length ([([1] : List UInt8), ([5, 48, 48, 48, 48, 48, 48, 48, 49, 47, 1] : List UInt8), ([6, 97, 47, 1] : List UInt8), ([97, 47, 98, 47, 99, 47, 1] : List UInt8)] : List (List UInt8)) : Int))) then
   let t2 := (List.getD ([([1] : List UInt8), ([5, 48, 48, 48, 48, 48, 48, 48, 49, 47, 1] : List UInt8), ([6, 97, 47, 1] : List UInt8), ([97, 47, 98, 47, 99, 47, 1] : List UInt8)] : List (List UInt8)) (Int.toNat t1) [])
   some (t2, ())
  else none
def uQ (s : aT × Unit) : Option (aa × Unit) :=
 match pD (s.1.1, ()) with
 | none => none
 | some r0 =>
  bif (decide (0 <= (Int.tmod s.1.2.1 4)) && decide (((Int.tmod s.1.2.1 4) : Int) < (List.length ([[], ([118] : List UInt8), ([119, 120] : List UInt8), ([120, 121, 122] : List UInt8)] : List (List UInt8)) : Int))) then
   let t1 := (List.getD ([[], ([118] : List UInt8), ([119, 120] : List UInt8), ([120, 121, 122] : List UInt8)] : List (List UInt8)) (Int.toNat (Int.tmod s.1.2.1 4)) [])
   let t2 := IntKind.i64.wrap (Int.tmod s.1.2.2.1 4)
   some ((r0.1, (t1, (t2, ()))), ())
  else none
def oL (s : RH) : Option (RH ⊕ ((Bool × aa × List aa × Unit) ⊕ Unit)) :=
 bif decide (0 <= s.2.2.1) && decide (s.2.2.1 < (List.length s.1 : Int)) then
  let t0 := (List.getD s.1 (Int.toNat s.2.2.1) ([], ([], (0, ()))))
  let t1 := (!decide ((t0.1 : List UInt8) = s.2.2.2.1.1))
  bif t1 then
   bif decide (0 <= s.2.2.1) && decide (s.2.2.1 < (List.length s.1 : Int)) then
    let t2 := (List.getD s.1 (Int.toNat s.2.2.1) ([], ([], (0, ()))))
    bif (decide ((List.length s.2.2.2.2.1 + List.length ([t2] : List aa)) * 40 <= ai)) then
     let t3 : List aa := (s.2.2.2.2.1 ++ ([t2] : List aa))
     some (.inl (s.1, s.2.1, (IntKind.i64.wrap (s.2.2.1 + 1)), s.2.2.2.1, t3, ()))
    else none
   else none
  else
   some (.inl (s.1, s.2.1, (IntKind.i64.wrap (s.2.2.1 + 1)), s.2.2.2.1, s.2.2.2.2.1, ()))
 else none
def oM (s : RE) : Option (RH ⊕ ((Bool × aa × List aa × Unit) ⊕ Unit)) :=
 bif s.2.2.2.1 then
  bif (decide ((List.length s.2.2.2.2.2.1 + List.length ([s.2.2.2.2.1] : List aa)) * 40 <= ai)) then
   let t0 : List aa := (s.2.2.2.2.2.1 ++ ([s.2.2.2.2.1] : List aa))
   oL (s.1, true, s.2.2.1, s.2.2.2.2.1, t0, ())
  else none
 else
  oL (s.1, s.2.1, s.2.2.1, s.2.2.2.2.1, s.2.2.2.2.2.1, ())

def mf (s : RH) : Option (RH ⊕ ((Bool × aa × List aa × Unit) ⊕ Unit)) :=
 let t0 := (decide (s.2.2.1 < ((List.length s.1) : Int)))
 bif t0 then
  bif !s.2.1 then
   bif decide (0 <= s.2.2.1) && decide (s.2.2.1 < (List.length s.1 : Int)) then
    let t1 := (List.getD s.1 (Int.toNat s.2.2.1) ([], ([], (0, ()))))
    oM (s.1, s.2.1, s.2.2.1, (!(Op.bytesLess t1.1 s.2.2.2.1.1)), s.2.2.2.1, s.2.2.2.2.1, ())
   else none
  else
   oM (s.1, s.2.1, s.2.2.1, false, s.2.2.2.1, s.2.2.2.2.1, ())
 else
  some (.inr (.inl (s.2.1, s.2.2.2.1, s.2.2.2.2.1, ())))
def uR := aR mf
def yx (s : List aa × aa × Unit) : Option (List aa × Unit) :=
 match uR (s.1, false, 0, s.2.1, [], ()) with
 | none => none
 | some (.inl z0) =>
  bif !z0.1 then
   bif (decide ((List.length z0.2.2.1 + List.length ([z0.2.1] : List aa)) * 40 <= ai)) then
    let t1 : List aa := (z0.2.2.1 ++ ([z0.2.1] : List aa))
    some (t1, ())
   else none
  else
   some (z0.2.2.1, ())
 | some (.inr z0) =>
  none
def ic (s : List aT × Int × Bool × List aa × Unit) : Option (RS ⊕ ((List aa × Unit) ⊕ Unit)) :=
 bif s.2.2.1 then
  bif decide (0 <= s.2.1) && decide (s.2.1 < (List.length s.1 : Int)) then
   let t0 := (List.getD s.1 (Int.toNat s.2.1) (0, (0, (0, ()))))
   match uQ (t0, ()) with
   | none => none
   | some r1 =>
    match yx (s.2.2.2.1, r1.1, ()) with
    | none => none
    | some r2 =>
     some (.inl (s.1, (IntKind.i64.wrap (s.2.1 + 1)), r2.1, ()))
  else none
 else
  some (.inr (.inl (s.2.2.2.1, ())))

def iQ (s : RS) : Option (RS ⊕ ((List aa × Unit) ⊕ Unit)) :=
 let t0 := (decide (s.2.1 < ((List.length s.1) : Int)))
 bif t0 then
  ic (s.1, s.2.1, (decide (s.2.1 < 40)), s.2.2.1, ())
 else
  ic (s.1, s.2.1, false, s.2.2.1, ())
def nH := aR iQ
def qR (s : List aT × Unit) : Option (List aa × Unit) :=
 match nH (s.1, 0, [], ()) with
 | none => none
 | some (.inl z0) =>
  some (z0.1, ())
 | some (.inr z0) =>
  none
def pF (s : aH) : Option (api_Node × Int × Unit) :=
 match nl (s.1, s.2.1, ()) with
 | none => none
 | some r0 =>
  bif !r0.1 then
   some (([], ([], ([], ([], ([], ()))))), 110, ())
  else
   bif decide (0 <= s.2.1) && decide (s.2.1 < (List.length s.1.1 : Int)) then
    let t1 := (List.getD s.1.1 (Int.toNat s.2.1) (false, (false, (0, (([], ([], ([], ([], ([], ()))))), ())))))
    bif t1.2.1 then
     some (([], ([], ([], ([], ([], ()))))), 112, ())
    else
     bif decide (0 <= s.2.1) && decide (s.2.1 < (List.length s.1.1 : Int)) then
      let t2 := (List.getD s.1.1 (Int.toNat s.2.1) (false, (false, (0, (([], ([], ([], ([], ([], ()))))), ())))))
      some (t2.2.2.2.1, 0, ())
     else none
   else none
def gH (s : Int × Unit) : Option (List UInt8 × Unit) :=
 bif (decide (0 <= (Int.tmod s.1 5)) && decide (((Int.tmod s.1 5) : Int) < (List.length ([([97, 47] : List UInt8), ([98, 47] : List UInt8), ([97, 47, 98, 47] : List UInt8), ([99, 47] : List UInt8), ([100, 47] : List UInt8)] : List (List UInt8)) : Int))) then
  let t0 := (List.getD ([([97, 47] : List UInt8), ([98, 47] : List UInt8), ([97, 47, 98, 47] : List UInt8), ([99, 47] : List UInt8), ([100, 47] : List UInt8)] : List (List UInt8)) (Int.toNat (Int.tmod s.1 5)) [])
  some (t0, ())
 else none
def pE (s : Int × Unit) : Option (List UInt8 × Unit) :=
 match gH ((Int.tmod s.1 4), ()) with
 | none => none
 | some r0 =>
  let t1 := (IntKind.u8.wrap (Int.tdiv s.1 4))
  bif (decide (0 <= (Int.tmod t1 5)) && decide (((Int.tmod t1 5) : Int) < (List.length ([([1] : List UInt8), ([2, 0, 0] : List UInt8), ([2, 0, 1] : List UInt8), ([2, 0, 2] : List UInt8), ([3, 120] : List UInt8)] : List (List UInt8)) : Int))) then
   let t2 := (List.getD ([([1] : List UInt8), ([2, 0, 0] : List UInt8), ([2, 0, 1] : List UInt8), ([2, 0, 2] : List UInt8), ([3, 120] : List UInt8)] : List (List UInt8)) (Int.toNat (Int.tmod t1 5)) [])
   bif decide (List.length r0.1 + List.length t2 <= ai) then
    some ((r0.1 ++ t2), ())
   else none
  else none
def vQ (s : RF) : Option (RF ⊕ (RF ⊕ Unit)) :=
 bif decide (s.2.1 > 0) then
  bif (decide (0 <= (IntKind.i64.wrap (s.2.1 - 1))) && decide (((IntKind.i64.wrap (s.2.1 - 1)) : Int) < (List.length s.1 : Int))) then
   let t0 : Int := ((List.getD s.1 (Int.toNat (IntKind.i64.wrap (s.2.1 - 1))) 0).toNat : Int)
   bif decide (t0 = 255) then
    some (.inl (s.1, (IntKind.i64.wrap (s.2.1 - 1)), s.2.2.1, s.2.2.2.1, ()))
   else
    some (.inr (.inl (s.1, s.2.1, s.2.2.1, s.2.2.2.1, ())))
  else none
 else
  some (.inr (.inl (s.1, s.2.1, s.2.2.1, s.2.2.2.1, ())))
def vS := aR vQ
def ref02_Prefix (s : List UInt8 × Unit) : Option (ac × Unit) :=
 match vS (s.1, ((List.length s.1) : Int), [], [], ()) with
 | none => none
 | some (.inl z0) =>
  bif decide (z0.2.1 = 0) then
   some ((z0.1, ([], ())), ())
  else
   bif (decide ((0 : Int) <= (IntKind.i64.wrap (z0.2.1 - 1))) && decide (((IntKind.i64.wrap (z0.2.1 - 1)) : Int) <= (List.length z0.1 : Int))) then
    let t1 := (List.drop 0 (List.take (Int.toNat (IntKind.i64.wrap (z0.2.1 - 1))) z0.1))
    bif (decide (0 <= (IntKind.i64.wrap (z0.2.1 - 1))) && decide (((IntKind.i64.wrap (z0.2.1 - 1)) : Int) < (List.length z0.1 : Int))) then
     let t2 : Int := ((List.getD z0.1 (Int.toNat (IntKind.i64.wrap (z0.2.1 - 1))) 0).toNat : Int)
     let t3 : List UInt8 := (oi ([(IntKind.u8.wrap (t2 + 1))] : List Int))
     bif decide (List.length t1 + List.length t3 <= ai) then
      some ((z0.1, ((t1 ++ t3), ())), ())
     else none
    else none
   else none
 | some (.inr z0) =>
  none
def iF (s : ac) : Option (Bool × Unit) :=
 let t0 := (decide ((((List.length s.1) : Int) : Int) >= ((List.length s.2.1) : Int)))
 bif t0 then
  bif (decide ((0 : Int) <= ((List.length s.2.1) : Int)) && decide ((((List.length s.2.1) : Int) : Int) <= (List.length s.1 : Int))) then
   let t1 := (List.drop 0 (List.take (Int.toNat ((List.length s.2.1) : Int)) s.1))
   some ((decide ((t1 : List UInt8) = s.2.1)), ())
  else none
 else
  some (false, ())
def jx (s : Int × Unit) : Option (List UInt8 × Unit) :=
 bif (decide (0 <= (Int.tmod s.1 5)) && decide (((Int.tmod s.1 5) : Int) < (List.length ([[], ([120] : List UInt8), ([121, 121] : List UInt8), ([49, 50, 51, 52, 53, 54, 55, 56, 57, 48] : List UInt8), ([0, 255] : List UInt8)] : List (List UInt8)) : Int))) then
  let t0 := (List.getD ([[], ([120] : List UInt8), ([121, 121] : List UInt8), ([49, 50, 51, 52, 53, 54, 55, 56, 57, 48] : List UInt8), ([0, 255] : List UInt8)] : List (List UInt8)) (Int.toNat (Int.tmod s.1 5)) [])
  some (t0, ())
 else none
def gh (s : List UInt8 × Unit) : Option (ac × Unit) :=
 bif decide (List.length s.1 + List.length ([0] : List UInt8) <= ai) then
  some ((s.1, ((s.1 ++ ([0] : List UInt8)), ())), ())
 else none
def cn (s : List UInt8 × List UInt8 × List UInt8 × Bool × (Int × Int × Int × Int × Int × Int × Unit) × Int × List UInt8 × List UInt8 × List UInt8 × List UInt8 × List UInt8 × List UInt8 × Int × ac × Unit) : Option (Q6 ⊕ Unit) :=
 bif s.2.2.2.1 then
  let t0 := decide ((s.2.1 : List UInt8) = ([100, 47] : List UInt8))
  bif t0 then
   some (.inl (s.1, s.2.1, ([99, 47] : List UInt8), s.2.2.2.2.1, s.2.2.2.2.2.1, s.2.2.2.2.2.2.1, s.2.2.2.2.2.2.2.1, s.2.2.2.2.2.2.2.2.1, s.2.2.2.2.2.2.2.2.2.1, s.2.2.2.2.2.2.2.2.2.2.1, s.2.2.2.2.2.2.2.2.2.2.2.1, s.2.2.2.2.2.2.2.2.2.2.2.2.1, s.2.2.2.2.2.2.2.2.2.2.2.2.2.1, ()))
  else
   some (.inl (s.1, s.2.1, ([100, 47] : List UInt8), s.2.2.2.2.1, s.2.2.2.2.2.1, s.2.2.2.2.2.2.1, s.2.2.2.2.2.2.2.1, s.2.2.2.2.2.2.2.2.1, s.2.2.2.2.2.2.2.2.2.1, s.2.2.2.2.2.2.2.2.2.2.1, s.2.2.2.2.2.2.2.2.2.2.2.1, s.2.2.2.2.2.2.2.2.2.2.2.2.1, s.2.2.2.2.2.2.2.2.2.2.2.2.2.1, ()))
 else
  some (.inl (s.1, s.2.1, s.2.2.1, s.2.2.2.2.1, s.2.2.2.2.2.1, s.2.2.2.2.2.2.1, s.2.2.2.2.2.2.2.1, s.2.2.2.2.2.2.2.2.1, s.2.2.2.2.2.2.2.2.2.1, s.2.2.2.2.2.2.2.2.2.2.1, s.2.2.2.2.2.2.2.2.2.2.2.1, s.2.2.2.2.2.2.2.2.2.2.2.2.1, s.2.2.2.2.2.2.2.2.2.2.2.2.2.1, ()))
def dq (s : Q6) : Option (ae ⊕ Unit) :=
 let t0 : Int := (Int.tmod s.2.2.2.1.2.2.2.2.2.1 8)
 let t1 := (decide (((Int.tmod s.2.2.2.1.1 6) : Int) = 0))
 bif t1 then
  match jx (s.2.2.2.1.2.2.1, ()) with
  | none => none
  | some r2 =>
   some (.inl (1, s.1, r2.1, ([], ([], ())), [], [], (IntKind.i64.wrap t0), ()))
 else
  let t2 := (decide (((Int.tmod s.2.2.2.1.1 6) : Int) = 1))
  bif t2 then
   some (.inl (2, s.1, [], ([], ([], ())), [], [], 0, ()))
  else
   let t3 := (decide (((Int.tmod s.2.2.2.1.1 6) : Int) = 2))
   bif t3 then
    some (.inl (3, [], [], s.2.2.2.2.2.2.2.2.2.2.2.2.1, [], [], 0, ()))
   else
    let t4 := (decide (((Int.tmod s.2.2.2.1.1 6) : Int) = 3))
    bif t4 then
     some (.inl (4, [], [], ([], ([], ())), s.2.1, s.2.2.1, 0, ()))
    else
     let t5 := (decide (((Int.tmod s.2.2.2.1.1 6) : Int) = 4))
     bif t5 then
      some (.inl (5, [], [], ([], ([], ())), s.2.1, s.2.2.1, 0, ()))
     else
      some (.inl (6, [], [], s.2.2.2.2.2.2.2.2.2.2.2.2.1, [], [], (IntKind.i64.wrap t0), ()))
def bP (s : List UInt8 × (Int × Int × Int × Int × Int × Int × Unit) × Int × List UInt8 × List UInt8 × List UInt8 × List UInt8 × List UInt8 × List UInt8 × Int × ac × Unit) : Option (ae ⊕ Unit) :=
 match gH (s.2.1.2.1, ()) with
 | none => none
 | some r0 =>
  match gH (s.2.1.2.2.2.1, ()) with
  | none => none
  | some r1 =>
   match iF (r0.1, r1.1, ()) with
   | none => none
   | some r2 =>
    bif !r2.1 then
     match iF (r1.1, r0.1, ()) with
     | none => none
     | some r3 =>
      match cn (s.1, r0.1, r1.1, r3.1, s.2.1, s.2.2.1, s.2.2.2.1, s.2.2.2.2.1, s.2.2.2.2.2.1, s.2.2.2.2.2.2.1, s.2.2.2.2.2.2.2.1, s.2.2.2.2.2.2.2.2.1, s.2.2.2.2.2.2.2.2.2.1, s.2.2.2.2.2.2.2.2.2.2.1, ()) with
      | none => none
      | some (.inl z4) =>
       match dq (z4.1, z4.2.1, z4.2.2.1, z4.2.2.2.1, z4.2.2.2.2.1, z4.2.2.2.2.2.1, z4.2.2.2.2.2.2.1, z4.2.2.2.2.2.2.2.1, z4.2.2.2.2.2.2.2.2.1, z4.2.2.2.2.2.2.2.2.2.1, z4.2.2.2.2.2.2.2.2.2.2.1, z4.2.2.2.2.2.2.2.2.2.2.2.1, z4.2.2.2.2.2.2.2.2.2.2.2.2.1, ()) with
       | none => none
       | some (.inl z5) =>
        some (.inl (z5.1, z5.2.1, z5.2.2.1, z5.2.2.2.1, z5.2.2.2.2.1, z5.2.2.2.2.2.1, z5.2.2.2.2.2.2.1, ()))
       | some (.inr z5) =>
        none
      | some (.inr z4) =>
       none
    else
     match cn (s.1, r0.1, r1.1, true, s.2.1, s.2.2.1, s.2.2.2.1, s.2.2.2.2.1, s.2.2.2.2.2.1, s.2.2.2.2.2.2.1, s.2.2.2.2.2.2.2.1, s.2.2.2.2.2.2.2.2.1, s.2.2.2.2.2.2.2.2.2.1, s.2.2.2.2.2.2.2.2.2.2.1, ()) with
     | none => none
     | some (.inl z3) =>
      match dq (z3.1, z3.2.1, z3.2.2.1, z3.2.2.2.1, z3.2.2.2.2.1, z3.2.2.2.2.2.1, z3.2.2.2.2.2.2.1, z3.2.2.2.2.2.2.2.1, z3.2.2.2.2.2.2.2.2.1, z3.2.2.2.2.2.2.2.2.2.1, z3.2.2.2.2.2.2.2.2.2.2.1, z3.2.2.2.2.2.2.2.2.2.2.2.1, z3.2.2.2.2.2.2.2.2.2.2.2.2.1, ()) with
      | none => none
      | some (.inl z4) =>
       some (.inl (z4.1, z4.2.1, z4.2.2.1, z4.2.2.2.1, z4.2.2.2.2.1, z4.2.2.2.2.2.1, z4.2.2.2.2.2.2.1, ()))
      | some (.inr z4) =>
       none
     | some (.inr z3) =>
      none
def kU (s : (Int × Int × Int × Int × Int × Int × Unit) × Unit) : Option (ae × Unit) :=
 match pE (s.1.2.1, ()) with
 | none => none
 | some r0 =>
  match pE (s.1.2.2.2.1, ()) with
  | none => none
  | some r1 =>
   let t2 : List UInt8 := (bif (Op.bytesLess r0.1 r1.1 || decide ((r0.1 : List UInt8) = r1.1)) then r0.1 else r1.1)
   let t3 : List UInt8 := (bif !(Op.bytesLess r0.1 r1.1) then r0.1 else r1.1)
   let t4 := (decide (((Int.tmod s.1.2.2.2.2.1 4) : Int) = 0))
   bif t4 then
    match gH (s.1.2.1, ()) with
    | none => none
    | some r5 =>
     match ref02_Prefix (r5.1, ()) with
     | none => none
     | some r6 =>
      match bP (r0.1, s.1, 0, [], [], [], [], [], [], 0, r6.1, ()) with
      | none => none
      | some (.inl z7) =>
       some ((z7.1, (z7.2.1, (z7.2.2.1, (z7.2.2.2.1, (z7.2.2.2.2.1, (z7.2.2.2.2.2.1, (z7.2.2.2.2.2.2.1, ()))))))), ())
      | some (.inr z7) =>
       none
   else
    let t5 := (decide (((Int.tmod s.1.2.2.2.2.1 16) : Int) = 1))
    bif t5 then
     match bP (r0.1, s.1, 0, [], [], [], [], [], [], 0, (r0.1, ([], ())), ()) with
     | none => none
     | some (.inl z6) =>
      some ((z6.1, (z6.2.1, (z6.2.2.1, (z6.2.2.2.1, (z6.2.2.2.2.1, (z6.2.2.2.2.2.1, (z6.2.2.2.2.2.2.1, ()))))))), ())
     | some (.inr z6) =>
      none
    else
     let t6 := (decide (((Int.tmod s.1.2.2.2.2.1 16) : Int) = 5))
     bif t6 then
      match bP (r0.1, s.1, 0, [], [], [], [], [], [], 0, ([], ([], ())), ()) with
      | none => none
      | some (.inl z7) =>
       some ((z7.1, (z7.2.1, (z7.2.2.1, (z7.2.2.2.1, (z7.2.2.2.2.1, (z7.2.2.2.2.2.1, (z7.2.2.2.2.2.2.1, ()))))))), ())
      | some (.inr z7) =>
       none
     else
      bif decide ((r0.1 : List UInt8) = r1.1) then
       match gh (r0.1, ()) with
       | none => none
       | some r7 =>
        match bP (r0.1, s.1, 0, [], [], [], [], [], [], 0, r7.1, ()) with
        | none => none
        | some (.inl z8) =>
         some ((z8.1, (z8.2.1, (z8.2.2.1, (z8.2.2.2.1, (z8.2.2.2.2.1, (z8.2.2.2.2.2.1, (z8.2.2.2.2.2.2.1, ()))))))), ())
        | some (.inr z8) =>
         none
      else
       match bP (r0.1, s.1, 0, [], [], [], [], [], [], 0, (t2, (t3, ())), ()) with
       | none => none
       | some (.inl z7) =>
        some ((z7.1, (z7.2.1, (z7.2.2.1, (z7.2.2.2.1, (z7.2.2.2.2.1, (z7.2.2.2.2.2.1, (z7.2.2.2.2.2.2.1, ()))))))), ())
       | some (.inr z7) =>
        none
def ie (s : (List (Int × Int × Int × Int × Int × Int × Unit)) × Int × Int × Bool × List ae × Unit) : Option (Ri ⊕ ((List ae × Unit) ⊕ Unit)) :=
 bif s.2.2.2.1 then
  bif decide (0 <= s.2.2.1) && decide (s.2.2.1 < (List.length s.1 : Int)) then
   let t0 := (List.getD s.1 (Int.toNat s.2.2.1) (0, (0, (0, (0, (0, (0, ())))))))
   match kU (t0, ()) with
   | none => none
   | some r1 =>
    bif (decide ((List.length s.2.2.2.2.1 + List.length ([r1.1] : List ae)) * 112 <= ai)) then
     let t2 : List ae := (s.2.2.2.2.1 ++ ([r1.1] : List ae))
     some (.inl (s.1, s.2.1, (IntKind.i64.wrap (s.2.2.1 + 1)), t2, ()))
    else none
  else none
 else
  some (.inr (.inl (s.2.2.2.2.1, ())))

def iR (s : Ri) : Option (Ri ⊕ ((List ae × Unit) ⊕ Unit)) :=
 let t0 := (decide (s.2.2.1 < ((List.length s.1) : Int)))
 bif t0 then
  ie (s.1, s.2.1, s.2.2.1, (decide (s.2.2.1 < s.2.1)), s.2.2.2.1, ())
 else
  ie (s.1, s.2.1, s.2.2.1, false, s.2.2.2.1, ())
def sH := aR iR
def uS (s : (List (Int × Int × Int × Int × Int × Int × Unit)) × Int × Unit) : Option (List ae × Unit) :=
 match sH (s.1, s.2.1, 0, [], ()) with
 | none => none
 | some (.inl z0) =>
  some (z0.1, ())
 | some (.inr z0) =>
  none
def dr (s : Int × Bool × ae × Unit) : Option (List ac × Unit) :=
 bif s.2.1 then
  match ref02_Prefix (s.2.2.1.2.2.2.2.1, ()) with
  | none => none
  | some r0 =>
   some (([r0.1] : List ac), ())
 else
  bif decide (s.1 = 6) then
   some (([s.2.2.1.2.2.2.1] : List ac), ())
  else
   some ([], ())

def ej (s : ae × Unit) : Option (List ac × Unit) :=
 bif decide (s.1.1 = 4) then
  dr (s.1.1, true, s.1, ())
 else
  dr (s.1.1, (decide (s.1.1 = 5)), s.1, ())
def bt (s : Int × Bool × ae × Unit) : Option (List ac × Unit) :=
 bif s.2.1 then
  match gh (s.2.2.1.2.1, ()) with
  | none => none
  | some r0 =>
   some (([r0.1] : List ac), ())
 else
  bif decide (s.1 = 4) then
   match ref02_Prefix (s.2.2.1.2.2.2.2.1, ()) with
   | none => none
   | some r0 =>
    match ref02_Prefix (s.2.2.1.2.2.2.2.2.1, ()) with
    | none => none
    | some r1 =>
     some (([r0.1, r1.1] : List ac), ())
  else
   bif decide (s.1 = 5) then
    match ref02_Prefix (s.2.2.1.2.2.2.2.2.1, ()) with
    | none => none
    | some r0 =>
     some (([r0.1] : List ac), ())
   else
    some (([s.2.2.1.2.2.2.1] : List ac), ())

def bj (s : ae × Unit) : Option (List ac × Unit) :=
 bif decide (s.1.1 = 1) then
  bt (s.1.1, true, s.1, ())
 else
  bt (s.1.1, (decide (s.1.1 = 2)), s.1, ())
def pq (s : ac × ac × Unit) : Option (Bool × Unit) :=
 match gC (s.2.1, ()) with
 | none => none
 | some r0 =>
  bif !r0.1 then
   match gC (s.1, ()) with
   | none => none
   | some r1 =>
    bif !r1.1 then
     let t2 := (Op.bytesLess s.1.1 s.2.1.1 || decide ((s.1.1 : List UInt8) = s.2.1.1))
     bif t2 then
      match kT (s.1.2.1, s.2.1.2.1, ()) with
      | none => none
      | some r3 =>
       some ((!r3.1), ())
     else
      some (false, ())
    else
     some (false, ())
  else
   some (true, ())
def ku (s : Int × ac × List ac × Unit) : Option ((Int × ac × List ac × Unit) ⊕ ((Bool × Unit) ⊕ Unit)) :=
 let t0 := (decide (s.1 < ((List.length s.2.2.1) : Int)))
 bif t0 then
  bif decide (0 <= s.1) && decide (s.1 < (List.length s.2.2.1 : Int)) then
   let t1 := (List.getD s.2.2.1 (Int.toNat s.1) ([], ([], ())))
   match pq (s.2.1, t1, ()) with
   | none => none
   | some r2 =>
    bif !r2.1 then
     some (.inr (.inl (false, ())))
    else
     some (.inl ((IntKind.i64.wrap (s.1 + 1)), s.2.1, s.2.2.1, ()))
  else none
 else
  some (.inr (.inr (())))
def sI := aR ku
def ref08_Lies (s : ae × ac × Unit) : Option (Bool × Unit) :=
 match ej (s.1, ()) with
 | none => none
 | some r0 =>
  bif (decide ((List.length ([] : List ac) + List.length r0.1) * 32 <= ai)) then
   let t1 : List ac := ([] ++ r0.1)
   match bj (s.1, ()) with
   | none => none
   | some r2 =>
    bif decide ((List.length t1 + List.length r2.1) * 32 <= ai) then
     match sI (0, s.2.1, (t1 ++ r2.1), ()) with
     | none => none
     | some (.inl z3) =>
      some (z3.1, ())
     | some (.inr z3) =>
      some (true, ())
    else none
  else none
def dD (s : Int × Int × Bool × ac × List ae × List ae × Unit) : Option (RI ⊕ ((List ae × Unit) ⊕ Unit)) :=
 bif s.2.2.1 then
  bif decide (0 <= s.2.1) && decide (s.2.1 < (List.length s.2.2.2.2.2.1 : Int)) then
   let t0 := (List.getD s.2.2.2.2.2.1 (Int.toNat s.2.1) (0, ([], ([], (([], ([], ())), ([], ([], (0, ()))))))))
   match ref08_Lies (t0, s.2.2.2.1, ()) with
   | none => none
   | some r1 =>
    bif r1.1 then
     bif decide (0 <= s.2.1) && decide (s.2.1 < (List.length s.2.2.2.2.2.1 : Int)) then
      let t2 := (List.getD s.2.2.2.2.2.1 (Int.toNat s.2.1) (0, ([], ([], (([], ([], ())), ([], ([], (0, ()))))))))
      bif (decide ((List.length s.2.2.2.2.1 + List.length ([t2] : List ae)) * 112 <= ai)) then
       let t3 : List ae := (s.2.2.2.2.1 ++ ([t2] : List ae))
       some (.inl (s.1, (IntKind.i64.wrap (s.2.1 + 1)), s.2.2.2.1, t3, s.2.2.2.2.2.1, ()))
      else none
     else none
    else
     some (.inl (s.1, (IntKind.i64.wrap (s.2.1 + 1)), s.2.2.2.1, s.2.2.2.2.1, s.2.2.2.2.2.1, ()))
  else none
 else
  some (.inr (.inl (s.2.2.2.2.1, ())))

def dR (s : RI) : Option (RI ⊕ ((List ae × Unit) ⊕ Unit)) :=
 let t0 := (decide (s.2.1 < ((List.length s.2.2.2.2.1) : Int)))
 bif t0 then
  let t1 := (decide ((((List.length s.2.2.2.1) : Int) : Int) < s.1))
  dD (s.1, s.2.1, t1, s.2.2.1, s.2.2.2.1, s.2.2.2.2.1, ())
 else
  dD (s.1, s.2.1, false, s.2.2.1, s.2.2.2.1, s.2.2.2.2.1, ())
def np := aR dR
def gJ (s : (List (Int × Int × Int × Int × Int × Int × Unit)) × ac × Int × Unit) : Option (List ae × Unit) :=
 match uS (s.1, (IntKind.i64.wrap (3 * s.2.2.1)), ()) with
 | none => none
 | some r0 =>
  match np (s.2.2.1, 0, s.2.1, [], r0.1, ()) with
  | none => none
  | some (.inl z1) =>
   some (z1.1, ())
  | some (.inr z1) =>
   none
def m8 (ref12_build_r : Ru -> Option (aH × Unit)) (s : List aa × (List (List (List UInt8))) × Int × List UInt8 × Bool × au × ac × a9 × List aj × Int × (List (List UInt8)) × Unit) : Option (Re ⊕ (Rf ⊕ Unit)) :=
 bif s.2.2.2.2.1 then
  bif (decide ((List.length s.2.2.2.2.2.2.2.2.2.2.1 + List.length ([s.2.2.2.1] : List (List UInt8))) * 16 <= ai)) then
   let t0 : List (List UInt8) := (s.2.2.2.2.2.2.2.2.2.2.1 ++ ([s.2.2.2.1] : List (List UInt8)))
   some (.inl (s.1, s.2.1, (IntKind.i64.wrap (s.2.2.1 + 1)), s.2.2.2.2.2.1, s.2.2.2.2.2.2.1, s.2.2.2.2.2.2.2.1, s.2.2.2.2.2.2.2.2.1, s.2.2.2.2.2.2.2.2.2.1, t0, ()))
  else none
 else
  some (.inl (s.1, s.2.1, (IntKind.i64.wrap (s.2.2.1 + 1)), s.2.2.2.2.2.1, s.2.2.2.2.2.2.1, s.2.2.2.2.2.2.2.1, s.2.2.2.2.2.2.2.2.1, s.2.2.2.2.2.2.2.2.2.1, s.2.2.2.2.2.2.2.2.2.2.1, ()))

def ik (ref12_build_r : Ru -> Option (aH × Unit)) (s : Re) : Option (Re ⊕ (Rf ⊕ Unit)) :=
 bif decide ((0 : Int) < (List.length s.2.1 : Int)) then
  let t0 := (List.getD s.2.1 0 [])
  let t1 := (decide (s.2.2.1 < ((List.length t0) : Int)))
  bif t1 then
   bif decide ((0 : Int) < (List.length s.2.1 : Int)) then
    let t2 := (List.getD s.2.1 0 [])
    bif decide (0 <= s.2.2.1) && decide (s.2.2.1 < (List.length t2 : Int)) then
     let t3 := (List.getD t2 (Int.toNat s.2.2.1) [])
     let t4 := (!(Op.bytesLess t3 s.2.2.2.2.1.1 || decide ((t3 : List UInt8) = s.2.2.2.2.1.1)))
     bif t4 then
      match tN (s.2.2.2.2.1, t3, ()) with
      | none => none
      | some r5 =>
       m8 ref12_build_r (s.1, s.2.1, s.2.2.1, t3, r5.1, s.2.2.2.1, s.2.2.2.2.1, s.2.2.2.2.2.1, s.2.2.2.2.2.2.1, s.2.2.2.2.2.2.2.1, s.2.2.2.2.2.2.2.2.1, ())
     else
      m8 ref12_build_r (s.1, s.2.1, s.2.2.1, t3, false, s.2.2.2.1, s.2.2.2.2.1, s.2.2.2.2.2.1, s.2.2.2.2.2.2.1, s.2.2.2.2.2.2.2.1, s.2.2.2.2.2.2.2.2.1, ())
    else none
   else none
  else
   some (.inr (.inl (s.1, s.2.1, s.2.2.2.1, s.2.2.2.2.1, s.2.2.2.2.2.1, s.2.2.2.2.2.2.1, s.2.2.2.2.2.2.2.1, s.2.2.2.2.2.2.2.2.1, ())))
 else none
def mB (ref12_build_r : Ru -> Option (aH × Unit)) (s : Re) : Option (Rf ⊕ Unit) := aR (ik ref12_build_r) s
def fS (ref12_build_r : Ru -> Option (aH × Unit)) (s : Ra) : Option (Ra ⊕ ((au × ac × a9 × List aj × Int × List aa × List ae × (List (List UInt8)) × List Int × List api_Sum × Unit) ⊕ Unit)) :=
 let t0 : Int := ((List.length s.2.2.2.2.2.2.2.2.2.2.1) : Int)
 bif decide (s.2.2.1 < t0) then
  bif decide (0 <= s.2.2.1) && decide (s.2.2.1 < (List.length s.2.2.2.2.2.2.2.2.2.2.1 : Int)) then
   let t1 := (List.getD s.2.2.2.2.2.2.2.2.2.2.1 (Int.toNat s.2.2.1) ([], ([], ())))
   bif (decide ((1 : Int) <= (List.length s.2.1 : Int)) && decide (((List.length s.2.1 : Int) : Int) <= (List.length s.2.1 : Int))) then
    let t2 := (List.drop (Int.toNat 1) (List.take (Int.toNat (List.length s.2.1 : Int)) s.2.1))
    match ref12_build_r (s.2.2.2.1, s.1, t1, t2, s.2.2.2.2.2.1, ()) with
    | none => none
    | some r3 =>
     match pF (r3.1.1, r3.1.2.1, ()) with
     | none => none
     | some r4 =>
      bif (decide ((List.length s.2.2.2.2.2.2.2.2.2.2.2.2.1 + List.length ([r3.1.2.1] : List Int)) * 8 <= ai)) then
       let t5 : List Int := (s.2.2.2.2.2.2.2.2.2.2.2.2.1 ++ ([r3.1.2.1] : List Int))
       match iS (r4.1, ()) with
       | none => none
       | some r6 =>
        bif (decide ((List.length s.2.2.2.2.2.2.2.2.2.2.2.2.2.1 + List.length ([r6.1] : List api_Sum)) * 32 <= ai)) then
         let t7 : List api_Sum := (s.2.2.2.2.2.2.2.2.2.2.2.2.2.1 ++ ([r6.1] : List api_Sum))
         some (.inl (s.1, s.2.1, (IntKind.i64.wrap (s.2.2.1 + 1)), r3.1.1, s.2.2.2.2.1, s.2.2.2.2.2.1, s.2.2.2.2.2.2.1, s.2.2.2.2.2.2.2.1, s.2.2.2.2.2.2.2.2.1, s.2.2.2.2.2.2.2.2.2.1, s.2.2.2.2.2.2.2.2.2.2.1, s.2.2.2.2.2.2.2.2.2.2.2.1, t5, t7, ()))
        else none
      else none
   else none
  else none
 else
  some (.inr (.inl (s.2.2.2.1, s.2.2.2.2.1, s.2.2.2.2.2.1, s.2.2.2.2.2.2.1, s.2.2.2.2.2.2.2.1, s.2.2.2.2.2.2.2.2.1, s.2.2.2.2.2.2.2.2.2.1, s.2.2.2.2.2.2.2.2.2.2.2.1, s.2.2.2.2.2.2.2.2.2.2.2.2.1, s.2.2.2.2.2.2.2.2.2.2.2.2.2.1, ())))
def mC (ref12_build_r : Ru -> Option (aH × Unit)) (s : Ra) : Option ((au × ac × a9 × List aj × Int × List aa × List ae × (List (List UInt8)) × List Int × List api_Sum × Unit) ⊕ Unit) := aR (fS ref12_build_r) s
def il (ref12_build_r : Ru -> Option (aH × Unit)) (s : Rd) : Option (Rd ⊕ ((List aj × Int × co × au × Unit) ⊕ Unit)) :=
 let t0 := (decide (s.1 < ((List.length s.2.2.2.2.2.2.2.1) : Int)))
 bif t0 then
  bif decide (0 <= s.1) && decide (s.1 < (List.length s.2.2.2.2.2.2.2.1 : Int)) then
   let t1 := (List.getD s.2.2.2.2.2.2.2.1 (Int.toNat s.1) 0)
   match qY (s.2.2.2.2.2.1, t1, ()) with
   | none => none
   | some r2 =>
    some (.inl ((IntKind.i64.wrap (s.1 + 1)), s.2.1, s.2.2.1, s.2.2.2.1, s.2.2.2.2.1, r2.1, s.2.2.2.2.2.2.1, s.2.2.2.2.2.2.2.1, s.2.2.2.2.2.2.2.2.1, s.2.2.2.2.2.2.2.2.2.1, ()))
  else none
 else
  some (.inr (.inl (s.2.1, s.2.2.1, s.2.2.2.2.1, s.2.2.2.2.2.1, ())))
def mD (ref12_build_r : Ru -> Option (aH × Unit)) (s : Rd) : Option ((List aj × Int × co × au × Unit) ⊕ Unit) := aR (il ref12_build_r) s
def fT (ref12_build_r : Ru -> Option (aH × Unit)) (s : au × List aj × Int × List aa × (List (List UInt8)) × List Int × List api_Sum × List ae × Unit) : Option (aH × Unit) :=
 match nk (s.1, (s.2.2.2.1, (s.2.2.2.2.1, (s.2.2.2.2.2.1, (s.2.2.2.2.2.2.1, (s.2.2.2.2.2.2.2.1, ()))))), ()) with
 | none => none
 | some r0 =>
  match mD ref12_build_r (0, s.2.1, s.2.2.1, s.2.2.2.1, r0.1, r0.1.1, s.2.2.2.2.1, s.2.2.2.2.2.1, s.2.2.2.2.2.2.1, s.2.2.2.2.2.2.2.1, ()) with
  | none => none
  | some (.inl z1) =>
   some ((z1.2.2.2.1, (z1.2.2.1.2.1, ())), ())
  | some (.inr z1) =>
   none
def jy (ref12_build_r : Ru -> Option (aH × Unit)) (s : Int × au × ac × a9 × List aj × Int × List aa × List ae × (List (List UInt8)) × List Int × List api_Sum × Unit) : Option (aH × Unit) :=
 bif decide (0 <= s.1) && decide (s.1 < 4) then
  bif (Nat.beq (Int.toNat s.1) 3) then
   match gJ (s.2.2.2.1.2.1.2.2.2.1, s.2.2.1, 5, ()) with
   | none => none
   | some r0 =>
    fT ref12_build_r (s.2.1, s.2.2.2.2.1, s.2.2.2.2.2.1, s.2.2.2.2.2.2.1, s.2.2.2.2.2.2.2.2.1, s.2.2.2.2.2.2.2.2.2.1, s.2.2.2.2.2.2.2.2.2.2.1, r0.1, ())
  else
   bif (Nat.beq (Int.toNat s.1) 2) then
    match gJ (s.2.2.2.1.2.1.2.2.1, s.2.2.1, 5, ()) with
    | none => none
    | some r0 =>
     fT ref12_build_r (s.2.1, s.2.2.2.2.1, s.2.2.2.2.2.1, s.2.2.2.2.2.2.1, s.2.2.2.2.2.2.2.2.1, s.2.2.2.2.2.2.2.2.2.1, s.2.2.2.2.2.2.2.2.2.2.1, r0.1, ())
   else
    bif (Nat.beq (Int.toNat s.1) 1) then
     match gJ (s.2.2.2.1.2.1.2.1, s.2.2.1, 5, ()) with
     | none => none
     | some r0 =>
      fT ref12_build_r (s.2.1, s.2.2.2.2.1, s.2.2.2.2.2.1, s.2.2.2.2.2.2.1, s.2.2.2.2.2.2.2.2.1, s.2.2.2.2.2.2.2.2.2.1, s.2.2.2.2.2.2.2.2.2.2.1, r0.1, ())
    else
     bif (Nat.beq (Int.toNat s.1) 0) then
      match gJ (s.2.2.2.1.2.1.1, s.2.2.1, 5, ()) with
      | none => none
      | some r0 =>
       fT ref12_build_r (s.2.1, s.2.2.2.2.1, s.2.2.2.2.2.1, s.2.2.2.2.2.2.1, s.2.2.2.2.2.2.2.2.1, s.2.2.2.2.2.2.2.2.2.1, s.2.2.2.2.2.2.2.2.2.2.1, r0.1, ())
     else none
 else none
def mA (ref12_build_r : Ru -> Option (aH × Unit)) (s : Rf) : Option (aH × Unit) :=
 let t0 := (decide ((((List.length s.2.1) : Int) : Int) = 0))
 bif t0 then
  match oc (s.1, s.2.2.2.1, ()) with
  | none => none
  | some r1 =>
   match nk (s.2.2.1, (r1.1, (s.2.2.2.2.2.2.2.1, ([], ([], ([], ()))))), ()) with
   | none => none
   | some r2 =>
    some ((r2.1.1, (r2.1.2.1, ())), ())
 else
  let t1 := (IntKind.i64.wrap (((List.length s.2.2.2.2.2.2.2.1) : Int) + 1))
  bif (decide (0 <= t1) && decide (t1 <= t1) && decide (t1 * 8 <= (ai : Int))) then
   match gD ((([] : List aa), (s.2.2.2.2.2.2.2.1, ((List.replicate (Int.toNat t1) (0 : Int)), (([] : List api_Sum), (([] : List ae), ()))))), s.2.2.2.1, ()) with
   | none => none
   | some r2 =>
    match mC ref12_build_r (s.1, s.2.1, 0, s.2.2.1, s.2.2.2.1, s.2.2.2.2.1, s.2.2.2.2.2.1, s.2.2.2.2.2.2.1, [], [], r2.1, s.2.2.2.2.2.2.2.1, [], [], ()) with
    | none => none
    | some (.inl z3) =>
     let t4 := (!(Ty.eqb af z3.2.1 ([], ([], ()))))
     bif t4 then
      let t5 : Int := (Int.tmod ((List.length z3.2.1.1) : Int) 3)
      jy ref12_build_r ((IntKind.i64.wrap (1 + t5)), z3.1, z3.2.1, z3.2.2.1, z3.2.2.2.1, z3.2.2.2.2.1, z3.2.2.2.2.2.1, z3.2.2.2.2.2.2.1, z3.2.2.2.2.2.2.2.1, z3.2.2.2.2.2.2.2.2.1, z3.2.2.2.2.2.2.2.2.2.1, ())
     else
      jy ref12_build_r (0, z3.1, z3.2.1, z3.2.2.1, z3.2.2.2.1, z3.2.2.2.2.1, z3.2.2.2.2.2.1, z3.2.2.2.2.2.2.1, z3.2.2.2.2.2.2.2.1, z3.2.2.2.2.2.2.2.2.1, z3.2.2.2.2.2.2.2.2.2.1, ())
    | some (.inr z3) =>
     none
  else none

def dQ (ref12_build_r : Ru -> Option (aH × Unit)) (s : Ru) : Option (aH × Unit) :=
 let t0 := (decide ((((List.length s.2.2.2.1) : Int) : Int) > 0))
 bif t0 then
  match mB ref12_build_r (s.2.1, s.2.2.2.1, 0, s.1, s.2.2.1, s.2.2.2.2.1, [], 0, [], ()) with
  | none => none
  | some (.inl z1) =>
   mA ref12_build_r (z1.1, z1.2.1, z1.2.2.1, z1.2.2.2.1, z1.2.2.2.2.1, z1.2.2.2.2.2.1, z1.2.2.2.2.2.2.1, z1.2.2.2.2.2.2.2.1, ())
  | some (.inr z1) =>
   none
 else
  mA ref12_build_r (s.2.1, s.2.2.2.1, s.1, s.2.2.1, s.2.2.2.2.1, [], 0, [], ())
def fE : Nat -> Ru -> Option (aH × Unit)
 | 0, _ => none
 | n + 1, s => dQ (fE n) s
def rU (s : Ru) : Option (aH × Unit) := fE abc s
def vc (s : a9 × Unit) : Option (am × Unit) :=
 match qR (s.1.1, ()) with
 | none => none
 | some r0 =>
  let t1 := IntKind.i64.wrap (Int.tmod s.1.2.2.1 4)
  bif (decide (0 <= t1) && decide (t1 < (List.length ([[], ([([([97, 47, 98, 47] : List UInt8), ([98, 47] : List UInt8), ([99, 47] : List UInt8)] : List (List UInt8))] : List (List (List UInt8))), ([([([98, 47] : List UInt8)] : List (List UInt8)), ([([97, 47, 2] : List UInt8), ([97, 47, 98, 47] : List UInt8), ([99, 47] : List UInt8)] : List (List UInt8))] : List (List (List UInt8))), ([([([97, 47, 98, 47] : List UInt8), ([98, 47] : List UInt8)] : List (List UInt8)), ([([97, 47, 98, 47, 2] : List UInt8), ([99, 47] : List UInt8), ([100, 47] : List UInt8)] : List (List UInt8))] : List (List (List UInt8)))] : List (List (List (List UInt8)))) : Int))) then
   let t2 := (List.getD ([[], ([([([97, 47, 98, 47] : List UInt8), ([98, 47] : List UInt8), ([99, 47] : List UInt8)] : List (List UInt8))] : List (List (List UInt8))), ([([([98, 47] : List UInt8)] : List (List UInt8)), ([([97, 47, 2] : List UInt8), ([97, 47, 98, 47] : List UInt8), ([99, 47] : List UInt8)] : List (List UInt8))] : List (List (List UInt8))), ([([([97, 47, 98, 47] : List UInt8), ([98, 47] : List UInt8)] : List (List UInt8)), ([([97, 47, 98, 47, 2] : List UInt8), ([99, 47] : List UInt8), ([100, 47] : List UInt8)] : List (List UInt8))] : List (List (List UInt8)))] : List (List (List (List UInt8)))) (Int.toNat t1) [])
   match rU (([], ()), r0.1, ([], ([], ())), t2, s.1, ()) with
   | none => none
   | some r3 =>
    let t4 := (IntKind.u8.wrap (Int.tdiv s.1.2.2.1 4))
    let t5 := IntKind.i64.wrap (Int.tmod t4 4)
    let t6 := (IntKind.u8.wrap (Int.tdiv s.1.2.2.1 16))
    let t7 := IntKind.i64.wrap (Int.tmod t6 3)
    let t8 := (IntKind.u8.wrap (Int.tdiv s.1.2.2.1 64))
    let t9 := IntKind.i64.wrap (1 + (IntKind.i64.wrap t8))
    some ((r3.1.1, (r3.1.2.1, (((IntKind.i64.wrap (2 + t5)), ((IntKind.i64.wrap (2 + t7)), (t9, ()))), ()))), ())
  else none
def uE (s : aT) : Option (Bool × Unit) :=
 bif decide (s.2.1 <= s.1) then
  some ((decide (s.1 <= s.2.2.1)), ())
 else
  some (false, ())
def sG (s : ae × Unit) : Option (Bool × Unit) :=
 match uE (((List.length s.1.2.1) : Int), 1, 65535, ()) with
 | none => none
 | some r0 =>
  bif r0.1 then
   let t1 := (decide ((((List.length s.1.2.2.1) : Int) : Int) <= 64))
   bif t1 then
    match uE (s.1.2.2.2.2.2.2.1, 0, 1000000000, ()) with
    | none => none
    | some r2 =>
     some (r2.1, ())
   else
    some (false, ())
  else
   some (false, ())
def uG (s : ae × Unit) : Option (ae × Unit) :=
 some ((s.1.1, (s.1.2.1, (s.1.2.2.1, (([], ([], ())), ([], ([], (s.1.2.2.2.2.2.2.1, ()))))))), ())
def sC (s : ae × Unit) : Option (Bool × Unit) :=
 match uE (((List.length s.1.2.1) : Int), 1, 65535, ()) with
 | none => none
 | some r0 =>
  some (r0.1, ())
def uD (s : ae × Unit) : Option (ae × Unit) :=
 some ((s.1.1, (s.1.2.1, ([], (([], ([], ())), ([], ([], (0, ()))))))), ())
def xb (s : ac × Unit) : Option (Bool × Unit) :=
 match fV (s.1, ()) with
 | none => none
 | some r0 =>
  bif !r0.1 then
   let t1 : Int := (if (((List.length s.1.1) : Int) : Int) < ((List.length s.1.2.1) : Int) then ((List.length s.1.2.1) : Int) else ((List.length s.1.1) : Int))
   some ((decide (t1 <= 65535)), ())
  else
   some (false, ())
def qw (s : ae × Unit) : Option (Bool × Unit) :=
 match xb (s.1.2.2.2.1, ()) with
 | none => none
 | some r0 =>
  some (r0.1, ())
def sD (s : ae × Unit) : Option (ae × Unit) :=
 some ((s.1.1, ([], ([], (s.1.2.2.2.1, ([], ([], (0, ()))))))), ())
def tC (s : ac) : Option (Bool × Unit) :=
 match uE (((List.length s.1) : Int), 1, 200, ()) with
 | none => none
 | some r0 =>
  bif r0.1 then
   match uE (((List.length s.2.1) : Int), 1, 200, ()) with
   | none => none
   | some r1 =>
    bif r1.1 then
     match gF (s.1, s.2.1, ()) with
     | none => none
     | some r2 =>
      bif !r2.1 then
       match gF (s.2.1, s.1, ()) with
       | none => none
       | some r3 =>
        some ((!r3.1), ())
      else
       some (false, ())
    else
     some (false, ())
  else
   some (false, ())
def qy (s : ae × Unit) : Option (Bool × Unit) :=
 match tC (s.1.2.2.2.2.1, s.1.2.2.2.2.2.1, ()) with
 | none => none
 | some r0 =>
  some (r0.1, ())
def sE (s : ae × Unit) : Option (ae × Unit) :=
 some ((s.1.1, ([], ([], (([], ([], ())), (s.1.2.2.2.2.1, (s.1.2.2.2.2.2.1, (0, ()))))))), ())
def oE (s : ae × Unit) : Option (Bool × Unit) :=
 match tC (s.1.2.2.2.2.1, s.1.2.2.2.2.2.1, ()) with
 | none => none
 | some r0 =>
  some (r0.1, ())
def qs (s : ae × Unit) : Option (ae × Unit) :=
 some ((s.1.1, ([], ([], (([], ([], ())), (s.1.2.2.2.2.1, (s.1.2.2.2.2.2.1, (0, ()))))))), ())
def oI (s : ae × Unit) : Option (Bool × Unit) :=
 match xb (s.1.2.2.2.1, ()) with
 | none => none
 | some r0 =>
  bif r0.1 then
   match uE (s.1.2.2.2.2.2.2.1, 0, 1000000000, ()) with
   | none => none
   | some r1 =>
    some (r1.1, ())
  else
   some (false, ())
def qD (s : ae × Unit) : Option (ae × Unit) :=
 some ((s.1.1, ([], ([], (s.1.2.2.2.1, ([], ([], (s.1.2.2.2.2.2.2.1, ()))))))), ())
def jL (s : ae × Unit) : Option (Bool × Unit) :=
 bif decide (s.1.1 = 1) then
  match sG (s.1, ()) with
  | none => none
  | some r0 =>
   bif r0.1 then
    match uG (s.1, ()) with
    | none => none
    | some r1 =>
     let t2 := (Ty.eqb ah r1.1 s.1)
     some (t2, ())
   else
    some (false, ())
 else
  bif decide (s.1.1 = 2) then
   match sC (s.1, ()) with
   | none => none
   | some r0 =>
    bif r0.1 then
     match uD (s.1, ()) with
     | none => none
     | some r1 =>
      let t2 := (Ty.eqb ah r1.1 s.1)
      some (t2, ())
    else
     some (false, ())
  else
   bif decide (s.1.1 = 3) then
    match qw (s.1, ()) with
    | none => none
    | some r0 =>
     bif r0.1 then
      match sD (s.1, ()) with
      | none => none
      | some r1 =>
       let t2 := (Ty.eqb ah r1.1 s.1)
       some (t2, ())
     else
      some (false, ())
   else
    bif decide (s.1.1 = 4) then
     match qy (s.1, ()) with
     | none => none
     | some r0 =>
      bif r0.1 then
       match sE (s.1, ()) with
       | none => none
       | some r1 =>
        let t2 := (Ty.eqb ah r1.1 s.1)
        some (t2, ())
      else
       some (false, ())
    else
     bif decide (s.1.1 = 5) then
      match oE (s.1, ()) with
      | none => none
      | some r0 =>
       bif r0.1 then
        match qs (s.1, ()) with
        | none => none
        | some r1 =>
         let t2 := (Ty.eqb ah r1.1 s.1)
         some (t2, ())
       else
        some (false, ())
     else
      bif decide (s.1.1 = 6) then
       match oI (s.1, ()) with
       | none => none
       | some r0 =>
        bif r0.1 then
         match qD (s.1, ()) with
         | none => none
         | some r1 =>
          let t2 := (Ty.eqb ah r1.1 s.1)
          some (t2, ())
        else
         some (false, ())
      else
       some (false, ())
def bA (s : List aa × Unit) : Option (List aa × Unit) := bif (decide ((List.length ([] : List aa) + List.length s.1) * 40 <= ai)) then some (s.1, ()) else none
def cj (s : Int × List aa × List aa × Unit) : Option (List aa × List aa × Unit) := amM 40 s
def y7 (s : List aa × aa × Unit) : Option (List aa × Unit) :=
 match jA (s.1, s.2.1.1, ()) with
 | none => none
 | some r0 =>
  match bA (s.1, ()) with
  | none => none
  | some r1 =>
   bif r0.2.1 then
    bif decide (0 <= r0.1) && decide (r0.1 < (List.length r1.1 : Int)) then
     some ((List.set r1.1 (Int.toNat r0.1) s.2.1), ())
    else none
   else
    match cj (r0.1, r1.1, ([s.2.1] : List aa), ()) with
    | none => none
    | some r2 =>
     some (r2.2.1, ())
def sF (s : R0) : Option (List aa × Unit) :=
 match y7 (s.2.1, (s.1.2.1, (s.1.2.2.1, (s.1.2.2.2.2.2.2.1, ()))), ()) with
 | none => none
 | some r0 =>
  some (r0.1, ())
def mM (s : RZ) : Option bF :=
 match fV (s.2.1, ()) with
 | none => none
 | some r0 =>
  bif r0.1 then
   some (0, 0, ())
  else
   match jA (s.1, s.2.1.1, ()) with
   | none => none
   | some r1 =>
    let t2 := (!decide ((s.2.1.2.1 : List UInt8) = []))
    bif t2 then
     match jA (s.1, s.2.1.2.1, ()) with
     | none => none
     | some r3 =>
      some (r1.1, r3.1, ())
    else
     some (r1.1, ((List.length s.1) : Int), ())
def cJ (s : Int × Unit) : Option (List aa × Unit) :=
 bif decide (s.1 < 0) then
  none
 else
  let t0 := IntKind.i64.wrap (0 - 0)
  let t1 := (decide (((IntKind.i64.wrap (s.1 - t0)) : Int) > 0))
  bif t1 then
   bif (decide (0 < (IntKind.i64.wrap (s.1 - t0))) && decide ((IntKind.i64.wrap (s.1 - t0)) * 40 <= (ai : Int))) then
    bif (decide (((0 : Int) : Int) <= (List.length (List.replicate (Int.toNat (IntKind.i64.wrap (s.1 - t0))) (([] : List UInt8), (([] : List UInt8), ((0 : Int), ())))) : Int))) then
     let t2 := (List.take 0 (List.replicate (Int.toNat (IntKind.i64.wrap (s.1 - t0))) (([] : List UInt8), (([] : List UInt8), ((0 : Int), ())))))
     some (t2, ())
    else none
   else none
  else
   some ([], ())
def aI (s : Rq) : Option (Rq ⊕ (((List (List aa)) × Int × Unit) ⊕ Unit)) :=
 let t0 := decide (s.2.2.2.2.1 < s.2.2.2.1)
 bif t0 then
  bif decide (0 <= s.2.2.2.2.1) && decide (s.2.2.2.2.1 < (List.length s.2.2.1 : Int)) then
   let t1 := (List.getD s.2.2.1 (Int.toNat s.2.2.2.2.1) [])
   let t2 := (IntKind.i64.wrap (s.2.1 + ((List.length t1) : Int)))
   bif decide (t2 < 0) then
    none
   else
    let t3 := IntKind.i64.wrap (s.2.2.2.2.1 + 1)
    some (.inl (s.1, t2, s.2.2.1, s.2.2.2.1, t3, ()))
  else none
 else
  some (.inr (.inl (s.1, s.2.1, ())))
def cX := aR aI
def aJ (s : (List (List aa)) × Int × Int × List aa × Unit) : Option (((List (List aa)) × Int × Int × List aa × Unit) ⊕ ((List aa × Unit) ⊕ Unit)) :=
 bif decide (s.2.2.1 < s.2.1) then
  bif decide (0 <= s.2.2.1) && decide (s.2.2.1 < (List.length s.1 : Int)) then
   let t0 := (List.getD s.1 (Int.toNat s.2.2.1) [])
   bif decide ((List.length s.2.2.2.1 + List.length t0) * 40 <= ai) then
    some (.inl (s.1, s.2.1, (IntKind.i64.wrap (s.2.2.1 + 1)), (s.2.2.2.1 ++ t0), ()))
   else none
  else none
 else
  some (.inr (.inl (s.2.2.2.1, ())))
def cY := aR aJ
def ci (s : (List (List aa)) × Unit) : Option (List aa × Unit) :=
 match cX (s.1, 0, s.1, ((List.length s.1) : Int), 0, ()) with
 | none => none
 | some (.inl z0) =>
  match cJ (z0.2.1, ()) with
  | none => none
  | some r1 =>
   match cY (z0.1, ((List.length z0.1) : Int), 0, r1.1, ()) with
   | none => none
   | some (.inl z2) =>
    some (z2.1, ())
   | some (.inr z2) =>
    none
 | some (.inr z0) =>
  none
def j9 (s : RZ) : Option (List aa × Unit) :=
 match mM (s.1, s.2.1, ()) with
 | none => none
 | some r0 =>
  bif decide ((0 : Int) <= r0.1) && decide (r0.1 <= (List.length s.1 : Int)) then
   let t1 := (List.drop 0 (List.take (Int.toNat r0.1) s.1))
   bif (decide (0 <= r0.2.1) && decide (r0.2.1 <= (List.length s.1 : Int)) && decide (((List.length s.1 : Int) : Int) <= (List.length s.1 : Int))) then
    let t2 := (List.drop (Int.toNat r0.2.1) (List.take (Int.toNat (List.length s.1 : Int)) s.1))
    match ci (([t1, t2] : List (List aa)), ()) with
    | none => none
    | some r3 =>
     some (r3.1, ())
   else none
  else none
def acJ (s : RX) : Option (List aa × Unit) :=
 match ol (s.2.1, ()) with
 | none => none
 | some r0 =>
  match j9 (s.1, r0.1, ()) with
  | none => none
  | some r1 =>
   some (r1.1, ())
def sB (s : R0) : Option (List aa × Unit) :=
 match acJ (s.2.1, s.1.2.1, ()) with
 | none => none
 | some r0 =>
  some (r0.1, ())
def qv (s : R0) : Option (List aa × Unit) :=
 match j9 (s.2.1, s.1.2.2.2.1, ()) with
 | none => none
 | some r0 =>
  some (r0.1, ())
def sd (s : RZ) : Option (List aa × Unit) :=
 match mM (s.1, s.2.1, ()) with
 | none => none
 | some r0 =>
  bif (decide (0 <= r0.1) && decide (r0.1 <= r0.2.1) && decide (r0.2.1 <= (List.length s.1 : Int)) && decide (r0.2.1 = r0.2.1)) then
   let t1 := (List.drop (Int.toNat r0.1) (List.take (Int.toNat r0.2.1) s.1))
   some (t1, ())
  else none
def jM (s : RD) : Option (RD ⊕ ((List aa × Unit) ⊕ Unit)) :=
 bif decide (s.2.2.2.1 < s.2.2.1) then
  bif decide (0 <= s.2.2.2.1) && decide (s.2.2.2.1 < (List.length s.2.2.2.2.1 : Int)) then
   let t0 := (List.getD s.2.2.2.2.1 (Int.toNat s.2.2.2.1) ([], ([], (0, ()))))
   match rc (t0.1, s.1, s.2.1, ()) with
   | none => none
   | some r1 =>
    bif decide (0 <= s.2.2.2.1) && decide (s.2.2.2.1 < (List.length s.2.2.2.2.1 : Int)) then
     let t2 := (List.set s.2.2.2.2.1 (Int.toNat s.2.2.2.1) (r1.1, (List.getD s.2.2.2.2.1 (Int.toNat s.2.2.2.1) ([], ([], (0, ())))).2))
     let t3 := IntKind.i64.wrap (s.2.2.2.1 + 1)
     some (.inl (s.1, s.2.1, s.2.2.1, t3, t2, ()))
    else none
  else none
 else
  some (.inr (.inl (s.2.2.2.2.1, ())))
def uF := aR jM
def yq (s : List aa × List UInt8 × List UInt8 × Unit) : Option (List aa × Unit) :=
 match span_Prefix (s.2.1, ()) with
 | none => none
 | some r0 =>
  match sd (s.1, r0.1, ()) with
  | none => none
  | some r1 =>
   match bA (r1.1, ()) with
   | none => none
   | some r2 =>
    match uF (s.2.1, s.2.2.1, ((List.length r2.1) : Int), 0, r2.1, ()) with
    | none => none
    | some (.inl z3) =>
     some (z3.1, ())
    | some (.inr z3) =>
     none
def mL (s : RP) : Option (RP ⊕ (RP ⊕ Unit)) :=
 bif decide ((0 : Int) < (List.length s.2.1 : Int)) then
  let t0 := (List.getD s.2.1 0 ([], ([], (0, ()))))
  bif (decide ((List.length s.2.2.1 + List.length ([t0] : List aa)) * 40 <= ai)) then
   let t1 : List aa := (s.2.2.1 ++ ([t0] : List aa))
   bif (decide ((1 : Int) <= (List.length s.2.1 : Int)) && decide (((List.length s.2.1 : Int) : Int) <= (List.length s.2.1 : Int))) then
    let t2 := (List.drop (Int.toNat 1) (List.take (Int.toNat (List.length s.2.1 : Int)) s.2.1))
    some (.inl (s.1, t2, t1, ()))
   else none
  else none
 else none
def gG (s : List aa × List aa × Bool × List aa × Unit) : Option (RP ⊕ (RP ⊕ Unit)) :=
 bif s.2.2.1 then
  some (.inr (.inl (s.1, s.2.1, s.2.2.2.1, ())))
 else
  bif decide ((0 : Int) < (List.length s.1 : Int)) then
   let t0 := (List.getD s.1 0 ([], ([], (0, ()))))
   bif decide ((0 : Int) < (List.length s.2.1 : Int)) then
    let t1 := (List.getD s.2.1 0 ([], ([], (0, ()))))
    bif (Op.bytesLess t0.1 t1.1) then
     bif decide ((0 : Int) < (List.length s.1 : Int)) then
      let t2 := (List.getD s.1 0 ([], ([], (0, ()))))
      bif (decide ((List.length s.2.2.2.1 + List.length ([t2] : List aa)) * 40 <= ai)) then
       let t3 : List aa := (s.2.2.2.1 ++ ([t2] : List aa))
       bif (decide ((1 : Int) <= (List.length s.1 : Int)) && decide (((List.length s.1 : Int) : Int) <= (List.length s.1 : Int))) then
        let t4 := (List.drop (Int.toNat 1) (List.take (Int.toNat (List.length s.1 : Int)) s.1))
        some (.inl (t4, s.2.1, t3, ()))
       else none
      else none
     else none
    else
     bif decide ((0 : Int) < (List.length s.1 : Int)) then
      let t2 := (List.getD s.1 0 ([], ([], (0, ()))))
      bif decide ((0 : Int) < (List.length s.2.1 : Int)) then
       let t3 := (List.getD s.2.1 0 ([], ([], (0, ()))))
       bif decide ((t2.1 : List UInt8) = t3.1) then
        bif (decide ((1 : Int) <= (List.length s.1 : Int)) && decide (((List.length s.1 : Int) : Int) <= (List.length s.1 : Int))) then
         let t4 := (List.drop (Int.toNat 1) (List.take (Int.toNat (List.length s.1 : Int)) s.1))
         mL (t4, s.2.1, s.2.2.2.1, ())
        else none
       else
        mL (s.1, s.2.1, s.2.2.2.1, ())
      else none
     else none
   else none
  else none

def ir (s : RP) : Option (RP ⊕ (RP ⊕ Unit)) :=
 let t0 := (decide ((((List.length s.1) : Int) : Int) = 0))
 bif !t0 then
  let t1 := (decide ((((List.length s.2.1) : Int) : Int) = 0))
  gG (s.1, s.2.1, t1, s.2.2.1, ())
 else
  gG (s.1, s.2.1, true, s.2.2.1, ())
def rg := aR ir
def se (s : List aa × List aa × Unit) : Option (List aa × Unit) :=
 let t0 := (IntKind.i64.wrap (((List.length s.1) : Int) + ((List.length s.2.1) : Int)))
 bif (decide (0 <= 0) && decide ((0 : Int) <= t0) && decide (t0 * 40 <= (ai : Int))) then
  match rg (s.1, s.2.1, (List.replicate 0 (([] : List UInt8), (([] : List UInt8), ((0 : Int), ())))), ()) with
  | none => none
  | some (.inl z1) =>
   bif decide ((List.length z1.2.2.1 + List.length z1.1) * 40 <= ai) then
    bif (decide ((List.length (z1.2.2.1 ++ z1.1) + List.length z1.2.1) * 40 <= ai)) then
     some (((z1.2.2.1 ++ z1.1) ++ z1.2.1), ())
    else none
   else none
  | some (.inr z1) =>
   none
 else none
def iK (s : R0) : Option (List aa × Unit) :=
 match span_Prefix (s.1.2.2.2.2.2.1, ()) with
 | none => none
 | some r0 =>
  match j9 (s.2.1, r0.1, ()) with
  | none => none
  | some r1 =>
   match yq (s.2.1, s.1.2.2.2.2.1, s.1.2.2.2.2.2.1, ()) with
   | none => none
   | some r2 =>
    match se (r1.1, r2.1, ()) with
    | none => none
    | some r3 =>
     some (r3.1, ())
def mb (s : R0) : Option (List aa × Unit) :=
 match iK (s.1, s.2.1, ()) with
 | none => none
 | some r0 =>
  match span_Prefix (s.1.2.2.2.2.1, ()) with
  | none => none
  | some r1 =>
   match j9 (r0.1, r1.1, ()) with
   | none => none
   | some r2 =>
    some (r2.1, ())
def fR (s : Int × Int × ae × List aa × Unit) : Option ((Int × Int × ae × List aa × Unit) ⊕ ((List aa × Unit) ⊕ Unit)) :=
 bif decide (s.2.1 < s.1) then
  bif decide (0 <= s.2.1) && decide (s.2.1 < (List.length s.2.2.2.1 : Int)) then
   let t0 := (List.getD s.2.2.2.1 (Int.toNat s.2.1) ([], ([], (0, ()))))
   match tW (s.2.2.1.2.2.2.1, t0.1, ()) with
   | none => none
   | some r1 =>
    bif r1.1 then
     bif decide (0 <= s.2.1) && decide (s.2.1 < (List.length s.2.2.2.1 : Int)) then
      let t2 := (List.set s.2.2.2.1 (Int.toNat s.2.1) ((List.getD s.2.2.2.1 (Int.toNat s.2.1) ([], ([], (0, ())))).1, ((List.getD s.2.2.2.1 (Int.toNat s.2.1) ([], ([], (0, ())))).2.1, (s.2.2.1.2.2.2.2.2.2.1, (List.getD s.2.2.2.1 (Int.toNat s.2.1) ([], ([], (0, ())))).2.2.2))))
      some (.inl (s.1, (IntKind.i64.wrap (s.2.1 + 1)), s.2.2.1, t2, ()))
     else none
    else
     some (.inl (s.1, (IntKind.i64.wrap (s.2.1 + 1)), s.2.2.1, s.2.2.2.1, ()))
  else none
 else
  some (.inr (.inl (s.2.2.2.1, ())))
def kQ := aR fR
def oH (s : R0) : Option (List aa × Unit) :=
 match bA (s.2.1, ()) with
 | none => none
 | some r0 =>
  match kQ (((List.length r0.1) : Int), 0, s.1, r0.1, ()) with
  | none => none
  | some (.inl z1) =>
   some (z1.1, ())
  | some (.inr z1) =>
   none
def lw (s : List aa × ae × Unit) : Option (List aa × Unit) :=
 bif decide (s.2.1.1 = 1) then
  match sF (s.2.1, s.1, ()) with
  | none => none
  | some r0 =>
   some (r0.1, ())
 else
  bif decide (s.2.1.1 = 2) then
   match sB (s.2.1, s.1, ()) with
   | none => none
   | some r0 =>
    some (r0.1, ())
  else
   bif decide (s.2.1.1 = 3) then
    match qv (s.2.1, s.1, ()) with
    | none => none
    | some r0 =>
     some (r0.1, ())
   else
    bif decide (s.2.1.1 = 4) then
     match mb (s.2.1, s.1, ()) with
     | none => none
     | some r0 =>
      some (r0.1, ())
    else
     bif decide (s.2.1.1 = 5) then
      match iK (s.2.1, s.1, ()) with
      | none => none
      | some r0 =>
       some (r0.1, ())
     else
      bif decide (s.2.1.1 = 6) then
       match oH (s.2.1, s.1, ()) with
       | none => none
       | some r0 =>
        some (r0.1, ())
      else
       some (s.1, ())
def jO (s : List aj × List Int × List aj × Unit) : Option ((List aj × List Int × List aj × Unit) ⊕ ((List aj × List aj × Unit) ⊕ Unit)) :=
 let t0 := (decide ((((List.length s.2.1) : Int) : Int) > 0))
 bif t0 then
  let t1 := (IntKind.i64.wrap (((List.length s.2.1) : Int) - 1))
  bif decide (0 <= t1) && decide (t1 < (List.length s.2.1 : Int)) then
   let t2 := (List.getD s.2.1 (Int.toNat t1) 0)
   let t3 := (IntKind.i64.wrap (((List.length s.2.1) : Int) - 1))
   bif decide ((0 : Int) <= t3) && decide (t3 <= (List.length s.2.1 : Int)) then
    bif decide (0 <= t2) && decide (t2 < (List.length s.2.2.1 : Int)) then
     let t4 := (List.getD s.2.2.1 (Int.toNat t2) (false, (false, (0, (([], ([], ([], ([], ([], ()))))), ())))))
     let t5 := IntKind.i64.wrap (t4.2.2.1 - 1)
     let t6 := (List.set s.2.2.1 (Int.toNat t2) ((List.getD s.2.2.1 (Int.toNat t2) (false, (false, (0, (([], ([], ([], ([], ([], ()))))), ()))))).1, ((List.getD s.2.2.1 (Int.toNat t2) (false, (false, (0, (([], ([], ([], ([], ([], ()))))), ()))))).2.1, (t5, (List.getD s.2.2.1 (Int.toNat t2) (false, (false, (0, (([], ([], ([], ([], ([], ()))))), ()))))).2.2.2))))
     let t7 := (List.getD t6 (Int.toNat t2) (false, (false, (0, (([], ([], ([], ([], ([], ()))))), ())))))
     bif decide (t7.2.2.1 > 0) then
      some (.inl (s.1, (List.take (Int.toNat t3) s.2.1), t6, ()))
     else
      let t8 := (List.getD t6 (Int.toNat t2) (false, (false, (0, (([], ([], ([], ([], ([], ()))))), ())))))
      bif (decide ((List.length (List.take (Int.toNat t3) s.2.1) + List.length t8.2.2.2.1.2.2.1) * 8 <= ai)) then
       let t9 := (List.take (Int.toNat t3) s.2.1 ++ t8.2.2.2.1.2.2.1)
       let t10 := (List.set t6 (Int.toNat t2) (false, (false, (0, (([], ([], ([], ([], ([], ()))))), ())))))
       some (.inl (s.1, t9, t10, ()))
      else none
    else none
   else none
  else none
 else
  some (.inr (.inl (s.1, s.2.2.1, ())))
def uJ := aR jO
def pC (s : aH) : Option aH :=
 match lz (s.1, s.2.1, ()) with
 | none => none
 | some r0 =>
  bif !r0.1 then
   some (s.1, 110, ())
  else
   match qK (s.1, ()) with
   | none => none
   | some r1 =>
    match uJ ([], ([s.2.1] : List Int), r1.1, ()) with
    | none => none
    | some (.inl z2) =>
     some ((z2.2.1, ()), 0, ())
    | some (.inr z2) =>
     none
def dc (s : List ae × Unit) : Option (List ae × Unit) :=
 bif (decide (0 <= 0) && decide ((0 : Int) <= ((List.length s.1) : Int)) && decide ((((List.length s.1) : Int) : Int) <= (List.length s.1 : Int)) && decide ((((List.length s.1) : Int) : Int) = ((List.length s.1) : Int))) then
  let t0 := (List.drop 0 (List.take (Int.toNat ((List.length s.1) : Int)) s.1))
  some (t0, ())
 else none
def rj (s : am × ae × Unit) : Option (am × Int × Unit) :=
 match jL (s.2.1, ()) with
 | none => none
 | some r0 =>
  bif !r0.1 then
   some (s.1, 50, ())
  else
   match eV (s.1.1, s.1.2.1, ()) with
   | none => none
   | some r1 =>
    bif (!decide (r1.2.1 = 0)) then
     some (s.1, r1.2.1, ())
    else
     match tZ (r1.1, ()) with
     | none => none
     | some r2 =>
      bif r2.1 then
       match lw (r1.1.1, s.2.1, ()) with
       | none => none
       | some r3 =>
        match qJ (s.1.1, (r3.1, (r1.1.2.1, (r1.1.2.2.1, (r1.1.2.2.2.1, (r1.1.2.2.2.2.1, ()))))), ()) with
        | none => none
        | some r4 =>
         bif (!decide (r4.2.2.1 = 0)) then
          some (s.1, r4.2.2.1, ())
         else
          match pC (r4.1, s.1.2.1, ()) with
          | none => none
          | some r5 =>
           bif (!decide (r5.2.1 = 0)) then
            some (s.1, r5.2.1, ())
           else
            some ((r5.1, (r4.2.1, (s.1.2.2.1, ()))), 0, ())
      else
       match dc (r1.1.2.2.2.2.1, ()) with
       | none => none
       | some r3 =>
        bif (decide (0 < List.length ([s.2.1] : List ae)) && decide ((List.length r3.1 + List.length ([s.2.1] : List ae)) * 112 <= ai)) then
         let t4 : List ae := (r3.1 ++ ([s.2.1] : List ae))
         match qJ (s.1.1, (r1.1.1, (r1.1.2.1, (r1.1.2.2.1, (r1.1.2.2.2.1, (t4, ()))))), ()) with
         | none => none
         | some r5 =>
          bif (!decide (r5.2.2.1 = 0)) then
           some (s.1, r5.2.2.1, ())
          else
           match pC (r5.1, s.1.2.1, ()) with
           | none => none
           | some r6 =>
            bif (!decide (r6.2.1 = 0)) then
             some (s.1, r6.2.1, ())
            else
             some ((r6.1, (r5.2.1, (s.1.2.2.1, ()))), 0, ())
        else none
def jB (s : Int × am × api_Node × Unit) : Option ((Int × am × api_Node × Unit) ⊕ ((Int × Unit) ⊕ Unit)) :=
 match tZ (s.2.2.1, ()) with
 | none => none
 | some r0 =>
  bif !r0.1 then
   bif decide ((0 : Int) < (List.length s.2.2.1.2.2.1 : Int)) then
    match eV (s.2.1.1, (List.getD s.2.2.1.2.2.1 0 0), ()) with
    | none => none
    | some r1 =>
     some (.inl ((IntKind.i64.wrap (s.1 + 1)), s.2.1, r1.1, ()))
   else none
  else
   some (.inr (.inl (s.1, ())))
def rk := aR jB
def sf (s : am × Unit) : Option (Int × Unit) :=
 match eV (s.1.1, s.1.2.1, ()) with
 | none => none
 | some r0 =>
  match rk (1, s.1, r0.1, ()) with
  | none => none
  | some (.inl z1) =>
   some (z1.1, ())
  | some (.inr z1) =>
   none
def ii (s : List ac × List ac × Int × Int × Unit) : Option ((List ac × List ac × Int × Int × Unit) ⊕ ((Bool × Unit) ⊕ RT)) :=
 let t0 := (decide (s.2.2.2.1 < ((List.length s.2.1) : Int)))
 bif t0 then
  bif decide (0 <= s.2.2.1) && decide (s.2.2.1 < (List.length s.1 : Int)) then
   let t1 := (List.getD s.1 (Int.toNat s.2.2.1) ([], ([], ())))
   bif decide (0 <= s.2.2.2.1) && decide (s.2.2.2.1 < (List.length s.2.1 : Int)) then
    let t2 := (List.getD s.2.1 (Int.toNat s.2.2.2.1) ([], ([], ())))
    match jr (t1, t2, ()) with
    | none => none
    | some r3 =>
     match gC (r3.1, ()) with
     | none => none
     | some r4 =>
      bif !r4.1 then
       some (.inr (.inl (true, ())))
      else
       let t5 := IntKind.i64.wrap (s.2.2.2.1 + 1)
       some (.inl (s.1, s.2.1, s.2.2.1, t5, ()))
   else none
  else none
 else
  some (.inr (.inr (s.1, s.2.1, s.2.2.1, ())))
def qW := aR ii
def ig (s : RT) : Option (RT ⊕ ((Bool × Unit) ⊕ Unit)) :=
 let t0 := (decide (s.2.2.1 < ((List.length s.1) : Int)))
 bif t0 then
  match qW (s.1, s.2.1, s.2.2.1, 0, ()) with
  | none => none
  | some (.inl z1) =>
   some (.inr (.inl (z1.1, ())))
  | some (.inr z1) =>
   let t2 := IntKind.i64.wrap (z1.2.2.1 + 1)
   some (.inl (z1.1, z1.2.1, t2, ()))
 else
  some (.inr (.inr (())))
def qV := aR ig
def rS (s : List ac × List ac × Unit) : Option (Bool × Unit) :=
 match qV (s.1, s.2.1, 0, ()) with
 | none => none
 | some (.inl z0) =>
  some (z0.1, ())
 | some (.inr z0) =>
  some (false, ())
def gS (s : Rj) : Option (Rj ⊕ (RJ ⊕ Unit)) :=
 bif decide (0 <= s.2.1) && decide (s.2.1 < (List.length s.2.2.2.2.2.2.1.2.2.1 : Int)) then
  let t0 := (List.getD s.2.2.2.2.2.2.1.2.2.1 (Int.toNat s.2.1) 0)
  bif (decide ((List.length s.2.2.2.2.1 + List.length ([t0] : List Int)) * 8 <= ai)) then
   bif decide (0 <= s.2.1) && decide (s.2.1 < (List.length s.2.2.2.2.2.2.2.1 : Int)) then
    let t1 := (List.getD s.2.2.2.2.2.2.2.1 (Int.toNat s.2.1) ([], ([], ())))
    bif (decide ((List.length s.2.2.2.2.2.1 + List.length ([t1] : List ac)) * 32 <= ai)) then
     let t2 : List ac := (s.2.2.2.2.2.1 ++ ([t1] : List ac))
     some (.inl (s.1, (IntKind.i64.wrap (s.2.1 + 1)), s.2.2.1, s.2.2.2.1, (s.2.2.2.2.1 ++ ([t0] : List Int)), t2, s.2.2.2.2.2.2.1, s.2.2.2.2.2.2.2.1, ()))
    else none
   else none
  else none
 else none

def hS (s : Rj) : Option (Rj ⊕ (RJ ⊕ Unit)) :=
 let t0 : Int := ((List.length s.2.2.2.2.2.2.1.2.2.1) : Int)
 bif decide (s.2.1 < t0) then
  match bj (s.2.2.2.1, ()) with
  | none => none
  | some r1 =>
   bif (decide (0 <= s.2.1) && decide (s.2.1 <= (IntKind.i64.wrap (s.2.1 + 1))) && decide (((IntKind.i64.wrap (s.2.1 + 1)) : Int) <= (List.length s.2.2.2.2.2.2.2.1 : Int))) then
    let t2 := (List.drop (Int.toNat s.2.1) (List.take (Int.toNat (IntKind.i64.wrap (s.2.1 + 1))) s.2.2.2.2.2.2.2.1))
    match rS (r1.1, t2, ()) with
    | none => none
    | some r3 =>
     bif r3.1 then
      gS ((IntKind.i64.wrap (s.1 + 1)), s.2.1, s.2.2.1, s.2.2.2.1, s.2.2.2.2.1, s.2.2.2.2.2.1, s.2.2.2.2.2.2.1, s.2.2.2.2.2.2.2.1, ())
     else
      gS (s.1, s.2.1, s.2.2.1, s.2.2.2.1, s.2.2.2.2.1, s.2.2.2.2.2.1, s.2.2.2.2.2.2.1, s.2.2.2.2.2.2.2.1, ())
   else none
 else
  some (.inr (.inl (s.1, s.2.2.1, s.2.2.2.1, s.2.2.2.2.1, s.2.2.2.2.2.1, ())))
def nc := aR hS
def bO (s : RJ) : Option (RJ ⊕ ((Int × Unit) ⊕ Unit)) :=
 let t0 := (decide ((((List.length s.2.2.2.1) : Int) : Int) > 0))
 bif t0 then
  bif decide ((0 : Int) < (List.length s.2.2.2.1 : Int)) then
   match pF (s.2.1.1, (List.getD s.2.2.2.1 0 0), ()) with
   | none => none
   | some r1 =>
    bif decide ((0 : Int) < (List.length s.2.2.2.2.1 : Int)) then
     let t2 := (List.getD s.2.2.2.2.1 0 ([], ([], ())))
     match gD (r1.1, t2, ()) with
     | none => none
     | some r3 =>
      match nc (s.1, 0, s.2.1, s.2.2.1, s.2.2.2.1, s.2.2.2.2.1, r1.1, r3.1, ()) with
      | none => none
      | some (.inl z4) =>
       bif (decide ((1 : Int) <= (List.length z4.2.2.2.1 : Int)) && decide (((List.length z4.2.2.2.1 : Int) : Int) <= (List.length z4.2.2.2.1 : Int))) then
        bif (decide ((1 : Int) <= (List.length z4.2.2.2.2.1 : Int)) && decide (((List.length z4.2.2.2.2.1 : Int) : Int) <= (List.length z4.2.2.2.2.1 : Int))) then
         let t5 := (List.drop /-T-/(Int.toNat 1) (List.take (Int.toNat (List.length z4.2.2.2.1 : Int)) z4.2.2.2.1))
         let t6 := (List.drop /-T-/(Int.toNat 1) (List.take (Int.toNat (List.length z4.2.2.2.2.1 : Int)) z4.2.2.2.2.1))
         some (.inl (z4.1, z4.2.1, z4.2.2.1, t5, t6, ()))
        else none
       else none
      | some (.inr z4) =>
       none
    else none
  else none
 else
  some (.inr (.inl (s.1, ())))
def mZ := aR bO
def nG (s : am × ae × Unit) : Option (Int × Unit) :=
 match mZ (0, s.1, s.2.1, ([s.1.2.1] : List Int), ([([], ([], ()))] : List ac), ()) with
 | none => none
 | some (.inl z0) =>
  some (z0.1, ())
 | some (.inr z0) =>
  none
def md (s : Int × List aj × Int × Int × Unit) : Option ((Int × List aj × Int × Int × Unit) ⊕ ((Int × Unit) ⊕ Unit)) :=
 bif decide (s.2.2.2.1 < s.2.2.1) then
  bif decide (0 <= s.2.2.2.1) && decide (s.2.2.2.1 < (List.length s.2.1 : Int)) then
   let t0 := (List.getD s.2.1 (Int.toNat s.2.2.2.1) (false, (false, (0, (([], ([], ([], ([], ([], ()))))), ())))))
   bif t0.1 then
    let t1 := IntKind.i64.wrap (s.2.2.2.1 + 1)
    some (.inl ((IntKind.i64.wrap (s.1 + 1)), s.2.1, s.2.2.1, t1, ()))
   else
    let t1 := IntKind.i64.wrap (s.2.2.2.1 + 1)
    some (.inl (s.1, s.2.1, s.2.2.1, t1, ()))
  else none
 else
  some (.inr (.inl (s.1, ())))
def uK := aR md
def yu (s : au × Unit) : Option (Int × Unit) :=
 match uK (0, s.1.1, ((List.length s.1.1) : Int), 0, ()) with
 | none => none
 | some (.inl z0) =>
  some (z0.1, ())
 | some (.inr z0) =>
  none
def gz (s : Bool × Int × Int × Bool × am × ae × am × Unit) : Option (Bool × Unit) :=
 bif s.2.2.2.1 then
  some (false, ())
 else
  match sf (s.2.2.2.2.1, ()) with
  | none => none
  | some r0 =>
   bif decide (r0.1 = 1) then
    bif s.1 then
     bif decide (s.2.1 = 0) then
      some ((decide (s.2.2.1 = 0)), ())
     else
      some (false, ())
    else
     some (false, ())
   else
    bif s.1 then
     match nG (s.2.2.2.2.1, s.2.2.2.2.2.1, ()) with
     | none => none
     | some r1 =>
      let t2 := (decide (((IntKind.i64.wrap (s.2.2.1 - s.2.1)) : Int) = r1.1))
      bif t2 then
       bif decide (s.2.2.1 > s.2.1) then
        match yu (s.2.2.2.2.1.1, ()) with
        | none => none
        | some r3 =>
         let t4 := (decide (((IntKind.i64.wrap (s.2.2.1 - s.2.1)) : Int) < r3.1))
         bif t4 then
          match iA (s.2.2.2.2.1.1, s.2.2.2.2.2.2.1.1, ()) with
          | none => none
          | some r5 =>
           some ((decide (r5.1 = 1)), ())
         else
          some (false, ())
       else
        some (false, ())
      else
       some (false, ())
    else
     some (false, ())

def fP (s : a9 × (Int × Int × Int × Int × Int × Int × Unit) × Unit) : Option (Bool × Unit) :=
 match uA (()) with
 | none => none
 | some r0 =>
  match vc (s.1, ()) with
  | none => none
  | some r1 =>
   match kU (s.2.1, ()) with
   | none => none
   | some r2 =>
    match rj (r1.1, r2.1, ()) with
    | none => none
    | some r3 =>
     match eh (r1.1, ()) with
     | none => none
     | some r4 =>
      match eh (r3.1, ()) with
      | none => none
      | some r5 =>
       bif (!(!decide (r3.2.1 = 0))) then
        bif (!(!decide (r4.2.1 = 0))) then
         gz (r0.1, r4.1, r5.1, (!decide (r5.2.1 = 0)), r1.1, r2.1, r3.1, ())
        else
         gz (r0.1, r4.1, r5.1, true, r1.1, r2.1, r3.1, ())
       else
        gz (r0.1, r4.1, r5.1, true, r1.1, r2.1, r3.1, ())
def zp (s : ae × Unit) : Option (List ac × Unit) :=
 some ([], ())
def zo (s : ae × Unit) : Option (List ac × Unit) :=
 some ([], ())
def xa (s : ae × Unit) : Option (List ac × Unit) :=
 some ([], ())
def xc (s : ae × Unit) : Option (List ac × Unit) :=
 match span_Prefix (s.1.2.2.2.2.1, ()) with
 | none => none
 | some r0 =>
  some (([r0.1] : List ac), ())
def vH (s : ae × Unit) : Option (List ac × Unit) :=
 match span_Prefix (s.1.2.2.2.2.1, ()) with
 | none => none
 | some r0 =>
  some (([r0.1] : List ac), ())
def vK (s : ae × Unit) : Option (List ac × Unit) :=
 some (([s.1.2.2.2.1] : List ac), ())
def nf (s : ae × Unit) : Option (List ac × Unit) :=
 bif decide (s.1.1 = 1) then
  match zp (s.1, ()) with
  | none => none
  | some r0 =>
   some (r0.1, ())
 else
  bif decide (s.1.1 = 2) then
   match zo (s.1, ()) with
   | none => none
   | some r0 =>
    some (r0.1, ())
  else
   bif decide (s.1.1 = 3) then
    match xa (s.1, ()) with
    | none => none
    | some r0 =>
     some (r0.1, ())
   else
    bif decide (s.1.1 = 4) then
     match xc (s.1, ()) with
     | none => none
     | some r0 =>
      some (r0.1, ())
    else
     bif decide (s.1.1 = 5) then
      match vH (s.1, ()) with
      | none => none
      | some r0 =>
       some (r0.1, ())
     else
      bif decide (s.1.1 = 6) then
       match vK (s.1, ()) with
       | none => none
       | some r0 =>
        some (r0.1, ())
      else
       some ([], ())
def hO (s : aq) : Option (Int × Unit) := some ((fun a c => Lib.indexByte a c.toNat.toUInt8) s.1 s.2.1, ())
def abK (s : aq) : Option (Int × Unit) :=
 match hO (s.1, s.2.1, ()) with
 | none => none
 | some r0 =>
  some (r0.1, ())
def vp (s : Int × Unit) : Option (Bool × Unit) :=
 bif decide ((0 : Int) <= s.1) then
  bif decide (s.1 < 55296) then
   some (true, ())
  else
   bif decide ((57343 : Int) < s.1) then
    bif decide (s.1 <= 1114111) then
     some (true, ())
    else
     some (false, ())
   else
    some (false, ())
 else
  bif decide ((57343 : Int) < s.1) then
   bif decide (s.1 <= 1114111) then
    some (true, ())
   else
    some (false, ())
  else
   some (false, ())
def xP (s : aq) : Option (aq ⊕ ((Int × Unit) ⊕ Unit)) :=
 bif decide (s.2.1 < (List.length s.1 : Int)) then
  let t0 := (decide (((oN s.1 s.2.1).1 : Int) = 65533))
  bif t0 then
   some (.inr (.inl (s.2.1, ())))
  else
   some (.inl (s.1, (s.2.1 + (oN s.1 s.2.1).2), ()))
 else
  some (.inr (.inr (())))
def xQ := aR xP
def oo (s : RU) : Option (Int × Unit) :=
 bif s.2.2.1 then
  match abK (s.1, (IntKind.u8.wrap s.2.1), ()) with
  | none => none
  | some r0 =>
   some (r0.1, ())
 else
  bif decide (s.2.1 = 65533) then
   match xQ (s.1, 0, ()) with
   | none => none
   | some (.inl z0) =>
    some (z0.1, ())
   | some (.inr z0) =>
    some ((-1 : Int), ())
  else
   match vp (s.2.1, ()) with
   | none => none
   | some r0 =>
    bif !r0.1 then
     some ((-1 : Int), ())
    else none

def mK (s : aq) : Option (Int × Unit) :=
 bif decide ((0 : Int) <= s.2.1) then
  oo (s.1, s.2.1, (decide (s.2.1 < 128)), ())
 else
  oo (s.1, s.2.1, false, ())
def rm (s : Int × Unit) : Option (Bool × Unit) :=
 some ((decide (s.1 > 8)), ())
def wg (s : aa) : Option (aa ⊕ ((Int × Unit) ⊕ Unit)) :=
 bif decide (s.2.2.1 < (List.length s.2.1 : Int)) then
  match mK (s.1, (oN s.2.1 s.2.2.1).1, ()) with
  | none => none
  | some r0 =>
   bif decide (r0.1 >= 0) then
    some (.inr (.inl (s.2.2.1, ())))
   else
    some (.inl (s.1, s.2.1, (s.2.2.1 + (oN s.2.1 s.2.2.1).2), ()))
 else
  some (.inr (.inr (())))
def wh := aR wg
def aa5 (s : ac) : Option (Int × Unit) :=
 let t0 := decide ((s.2.1 : List UInt8) = [])
 bif t0 then
  some ((-1 : Int), ())
 else
  let t1 := (decide ((((List.length s.2.1) : Int) : Int) = 1))
  bif t1 then
   bif decide ((0 : Int) < (List.length s.2.1 : Int)) then
    let t2 := (IntKind.i32.wrap ((List.getD s.2.1 0 0).toNat : Int))
    bif decide (t2 >= 128) then
     match mK (s.1, 65533, ()) with
     | none => none
     | some r3 =>
      some (r3.1, ())
    else
     match mK (s.1, t2, ()) with
     | none => none
     | some r3 =>
      some (r3.1, ())
   else none
  else
   match rm (((List.length s.1) : Int), ()) with
   | none => none
   | some r2 =>
    bif r2.1 then
     none
    else
     match wh (s.2.1, s.1, 0, ()) with
     | none => none
     | some (.inl z3) =>
      some (z3.1, ())
     | some (.inr z3) =>
      some ((-1 : Int), ())
def acG (s : ac) : Option (Int × Unit) := orE (aa5 s) (anH s)
def afb (s : Rx) : Option (List UInt8 × Int × List UInt8 × List UInt8 × Int × Int × List UInt8 × Unit) :=
 match acG (s.1, ([1, 2, 3] : List UInt8), ()) with
 | none => none
 | some r0 =>
  bif decide (r0.1 < 0) then
   some ([], 0, s.1, s.2.1, s.2.2.1, s.2.2.2.1, s.2.2.2.2.1, ())
  else
   bif decide ((0 : Int) <= r0.1) && decide (r0.1 <= (List.length s.1 : Int)) then
    let t1 := (List.drop 0 (List.take (Int.toNat r0.1) s.1))
    bif decide (0 <= r0.1) && decide (r0.1 < (List.length s.1 : Int)) then
     let t2 : Int := ((List.getD s.1 (Int.toNat r0.1) 0).toNat : Int)
     bif (decide (0 <= (IntKind.i64.wrap (r0.1 + 1))) && decide (((IntKind.i64.wrap (r0.1 + 1)) : Int) <= (List.length s.1 : Int)) && decide (((List.length s.1 : Int) : Int) <= (List.length s.1 : Int))) then
      let t3 := (List.drop (Int.toNat (IntKind.i64.wrap (r0.1 + 1))) (List.take (Int.toNat (List.length s.1 : Int)) s.1))
      some (t1, t2, t3, s.2.1, s.2.2.1, s.2.2.2.1, s.2.2.2.2.1, ())
     else none
    else none
   else none
def qI (s : Rk) : Option Rx :=
 bif s.2.1 then
  bif decide ((0 : Int) < (List.length s.2.2.1 : Int)) then
   let t0 := IntKind.i64.wrap ((List.getD s.2.2.1 0 0).toNat : Int)
   let t1 := (IntKind.i64.wrap (t0 * 2 ^ (min (Int.toNat 8) IntKind.i64.bits)))
   bif decide ((1 : Int) < (List.length s.2.2.1 : Int)) then
    let t2 : Int := ((List.getD s.2.2.1 (Int.toNat 1) 0).toNat : Int)
    let t3 := (IntKind.i64.wrap ((BitVec.ofInt IntKind.i64.bits t1 ||| BitVec.ofInt IntKind.i64.bits (IntKind.i64.wrap t2)).toNat : Int))
    some (s.2.2.1, s.2.2.2.1, s.2.2.2.2.1, t3, s.2.2.2.2.2.2.1, ())
   else none
  else none
 else
  bif decide (s.1 = 3) then
   some (s.2.2.1, s.2.2.2.1, s.2.2.2.2.1, s.2.2.2.2.2.1, s.2.2.1, ())
  else
   some (s.2.2.1, s.2.2.2.1, s.2.2.2.2.1, s.2.2.2.2.2.1, s.2.2.2.2.2.2.1, ())
def qH (s : Rk) : Option Rx :=
 bif s.2.1 then
  some (s.2.2.1, s.2.2.2.1, 4, s.2.2.2.2.2.1, s.2.2.2.2.2.2.1, ())
 else
  bif decide (s.1 = 2) then
   let t0 := (decide ((((List.length s.2.2.1) : Int) : Int) = 2))
   qI (s.1, t0, s.2.2.1, s.2.2.2.1, s.2.2.2.2.1, s.2.2.2.2.2.1, s.2.2.2.2.2.2.1, ())
  else
   qI (s.1, false, s.2.2.1, s.2.2.2.1, s.2.2.2.2.1, s.2.2.2.2.2.1, s.2.2.2.2.2.2.1, ())

def ad5 (s : Rx) : Option Rx :=
 match ji (s.1, ([6] : List UInt8), ()) with
 | none => none
 | some r0 =>
  match afb (r0.1, s.2.1, s.2.2.1, s.2.2.2.1, s.2.2.2.2.1, ()) with
  | none => none
  | some r1 =>
   bif r0.2.1 then
    qH (r1.2.1, (decide (r1.2.1 = 1)), r1.2.2.1, r1.1, (IntKind.i64.wrap r1.2.1), r1.2.2.2.2.2.1, r1.2.2.2.2.2.2.1, ())
   else
    qH (r1.2.1, false, r1.2.2.1, r1.1, (IntKind.i64.wrap r1.2.1), r1.2.2.2.2.2.1, r1.2.2.2.2.2.2.1, ())
def iv (s : List UInt8 × List UInt8 × Int × Bool × Unit) : Option (Int × Unit) :=
 bif s.2.2.2.1 then
  some (0, ())
 else
  bif decide (s.2.2.1 = 1) then
   bif decide ((0 : Int) < (List.length s.2.1 : Int)) then
    match hO (s.1, ((List.getD s.2.1 0 0).toNat : Int), ()) with
    | none => none
    | some r0 =>
     some (r0.1, ())
   else none
  else
   let t0 := (decide (s.2.2.1 >= ((List.length s.1) : Int)))
   bif t0 then
    some ((-1 : Int), ())
   else none

def qo (s : ac) : Option (Int × Unit) :=
 let t0 := (decide ((((List.length s.2.1) : Int) : Int) = 0))
 bif !t0 then
  iv (s.1, s.2.1, ((List.length s.2.1) : Int), (decide ((s.2.1 : List UInt8) = s.1)), ())
 else
  iv (s.1, s.2.1, ((List.length s.2.1) : Int), true, ())
def sA (s : ac) : Option RM :=
 match qo (s.1, s.2.1, ()) with
 | none => none
 | some r0 =>
  bif decide (r0.1 >= 0) then
   bif decide ((0 : Int) <= r0.1) && decide (r0.1 <= (List.length s.1 : Int)) then
    let t1 := (List.drop 0 (List.take (Int.toNat r0.1) s.1))
    let t2 := (IntKind.i64.wrap (r0.1 + ((List.length s.2.1) : Int)))
    bif (decide (0 <= t2) && decide (t2 <= (List.length s.1 : Int)) && decide (((List.length s.1 : Int) : Int) <= (List.length s.1 : Int))) then
     let t3 := (List.drop (Int.toNat t2) (List.take (Int.toNat (List.length s.1 : Int)) s.1))
     some (t1, t3, true, ())
    else none
   else none
  else
   some (s.1, [], false, ())
def ajB (s : ac) : Option RM :=
 match sA (s.1, s.2.1, ()) with
 | none => none
 | some r0 =>
  some (r0.1, r0.2.1, r0.2.2.1, ())
def ag4 (s : Int × Unit) : Option (Bool × Unit) :=
 bif (!(decide (s.1 < 33))) then
  bif (!(decide (s.1 > 126))) then
   some ((decide (s.1 = 47)), ())
  else
   some (true, ())
 else
  some (true, ())
def xR (s : Bool × List UInt8 × Int × Unit) : Option ((Bool × List UInt8 × Int × Unit) ⊕ ((Int × Unit) ⊕ Unit)) :=
 bif decide (s.2.2.1 < (List.length s.2.1 : Int)) then
  match ag4 ((oN s.2.1 s.2.2.1).1, ()) with
  | none => none
  | some r0 =>
   bif (r0.1 == s.1) then
    some (.inr (.inl (s.2.2.1, ())))
   else
    some (.inl (s.1, s.2.1, (s.2.2.1 + (oN s.2.1 s.2.2.1).2), ()))
 else
  some (.inr (.inr (())))
def xS := aR xR
def abM (s : RY) : Option (Int × Unit) :=
 match xS (s.2.1, s.1, 0, ()) with
 | none => none
 | some (.inl z0) =>
  some (z0.1, ())
 | some (.inr z0) =>
  some ((-1 : Int), ())
def abL (s : List UInt8 × Unit) : Option (Int × Unit) :=
 match abM (s.1, true, ()) with
 | none => none
 | some r0 =>
  some (r0.1, ())
def ada (s : List UInt8 × Unit) : Option (Bool × Unit) :=
 let t0 := decide ((s.1 : List UInt8) = [])
 bif !t0 then
  let t1 := (decide ((((List.length s.1) : Int) : Int) > 12))
  bif !t1 then
   let t2 := decide ((s.1 : List UInt8) = ([46] : List UInt8))
   bif !t2 then
    let t3 := decide ((s.1 : List UInt8) = ([46, 46] : List UInt8))
    bif t3 then
     some (false, ())
    else
     match abL (s.1, ()) with
     | none => none
     | some r4 =>
      some ((decide (r4.1 < 0)), ())
   else
    some (false, ())
  else
   some (false, ())
 else
  some (false, ())
def ag2 (s : List UInt8 × Unit) : Option ((List UInt8 × Unit) ⊕ ((Bool × Unit) ⊕ Unit)) :=
 let t0 := (!decide ((s.1 : List UInt8) = []))
 bif t0 then
  match ajB (s.1, ([47] : List UInt8), ()) with
  | none => none
  | some r1 =>
   bif (!(!r1.2.2.1)) then
    match ada (r1.1, ()) with
    | none => none
    | some r2 =>
     bif !r2.1 then
      some (.inr (.inl (false, ())))
     else
      some (.inl (r1.2.1, ()))
   else
    some (.inr (.inl (false, ())))
 else
  some (.inr (.inr (())))
def ag3 := aR ag2
def ak5 (s : List UInt8 × Unit) : Option (Bool × Unit) :=
 match ag3 (s.1, ()) with
 | none => none
 | some (.inl z0) =>
  some (z0.1, ())
 | some (.inr z0) =>
  some (true, ())
def jj (s : RU) : Option (aq ⊕ ((List UInt8 × Unit) ⊕ Unit)) :=
 bif s.2.2.1 then
  let t0 := (IntKind.i64.wrap (((List.length s.1) : Int) - 1))
  bif decide ((0 : Int) <= t0) && decide (t0 <= (List.length s.1 : Int)) then
   let t1 := (List.drop 0 (List.take (Int.toNat t0) s.1))
   some (.inl (t1, s.2.1, ()))
  else none
 else
  some (.inr (.inl (s.1, ())))

def sN (s : aq) : Option (aq ⊕ ((List UInt8 × Unit) ⊕ Unit)) :=
 let t0 := (decide ((((List.length s.1) : Int) : Int) > 0))
 bif t0 then
  let t1 := (IntKind.i64.wrap (((List.length s.1) : Int) - 1))
  bif decide (0 <= t1) && decide (t1 < (List.length s.1 : Int)) then
   let t2 : Int := ((List.getD s.1 (Int.toNat t1) 0).toNat : Int)
   jj (s.1, s.2.1, (decide (t2 = s.2.1)), ())
  else none
 else
  jj (s.1, s.2.1, false, ())
def sO := aR sN
def wi (s : aq) : Option (List UInt8 × Unit) :=
 match sO (s.1, s.2.1, ()) with
 | none => none
 | some (.inl z0) =>
  some (z0.1, ())
 | some (.inr z0) =>
  none
def j8 (s : RU) : Option (aq ⊕ ((List UInt8 × Unit) ⊕ Unit)) :=
 bif s.2.2.1 then
  bif (decide ((1 : Int) <= (List.length s.1 : Int)) && decide (((List.length s.1 : Int) : Int) <= (List.length s.1 : Int))) then
   let t0 := (List.drop (Int.toNat 1) (List.take (Int.toNat (List.length s.1 : Int)) s.1))
   some (.inl (t0, s.2.1, ()))
  else none
 else
  some (.inr (.inl (s.1, ())))

def tX (s : aq) : Option (aq ⊕ ((List UInt8 × Unit) ⊕ Unit)) :=
 let t0 := (decide ((((List.length s.1) : Int) : Int) > 0))
 bif t0 then
  bif decide ((0 : Int) < (List.length s.1 : Int)) then
   let t1 := (decide ((((List.getD s.1 0 0).toNat : Int) : Int) = s.2.1))
   j8 (s.1, s.2.1, t1, ())
  else none
 else
  j8 (s.1, s.2.1, false, ())
def tY := aR tX
def xT (s : aq) : Option (List UInt8 × Unit) :=
 match tY (s.1, s.2.1, ()) with
 | none => none
 | some (.inl z0) =>
  some (z0.1, ())
 | some (.inr z0) =>
  none
def rZ (s : RM) : Option (List UInt8 × Unit) :=
 bif s.2.2.1 then
  bif decide ((0 : Int) < (List.length s.2.1 : Int)) then
   match wi (s.1, ((List.getD s.2.1 0 0).toNat : Int), ()) with
   | none => none
   | some r0 =>
    bif decide ((0 : Int) < (List.length s.2.1 : Int)) then
     match xT (r0.1, ((List.getD s.2.1 0 0).toNat : Int), ()) with
     | none => none
     | some r1 =>
      some (r1.1, ())
    else none
  else none
 else none
def rY (s : RM) : Option (List UInt8 × Unit) :=
 bif s.2.2.1 then
  some (s.1, ())
 else
  let t0 := (decide ((((List.length s.2.1) : Int) : Int) = 1))
  bif t0 then
   bif decide ((0 : Int) < (List.length s.2.1 : Int)) then
    let t1 := (decide ((((List.getD s.2.1 0 0).toNat : Int) : Int) < 128))
    rZ (s.1, s.2.1, t1, ())
   else none
  else
   rZ (s.1, s.2.1, false, ())

def afO (s : ac) : Option (List UInt8 × Unit) :=
 let t0 := decide ((s.1 : List UInt8) = [])
 bif !t0 then
  let t1 := decide ((s.2.1 : List UInt8) = [])
  rY (s.1, s.2.1, t1, ())
 else
  rY (s.1, s.2.1, true, ())
def aiv (s : ac) : Option (List UInt8 × Unit) := orE (afO s) (an7 s)
def mc (s : RY) : Option (Bool × Unit) :=
 bif s.2.1 then
  some (false, ())
 else
  bif decide ((9 : Int) <= (List.length s.1 : Int)) then
   let t0 := (List.drop (Int.toNat 1) (List.take (Int.toNat 9) s.1))
   match aiv (t0, ([48, 49, 50, 51, 52, 53, 54, 55, 56, 57, 97, 98, 99, 100, 101, 102] : List UInt8), ()) with
   | none => none
   | some r1 =>
    let t2 := decide ((r1.1 : List UInt8) = [])
    some (t2, ())
  else none

def ajv (s : List UInt8 × Unit) : Option (Bool × Unit) :=
 let t0 := (!decide ((((List.length s.1) : Int) : Int) = 10))
 bif !t0 then
  bif decide ((0 : Int) < (List.length s.1 : Int)) then
   let t1 := (!decide ((((List.getD s.1 0 0).toNat : Int) : Int) = 5))
   bif !t1 then
    bif decide ((1 : Int) < (List.length s.1 : Int)) then
     let t2 : Int := ((List.getD s.1 (Int.toNat 1) 0).toNat : Int)
     bif (!(decide (t2 > 55))) then
      bif decide ((9 : Int) < (List.length s.1 : Int)) then
       let t3 : Int := ((List.getD s.1 (Int.toNat 9) 0).toNat : Int)
       mc (s.1, (!decide (t3 = 47)), ())
      else none
     else
      mc (s.1, true, ())
    else none
   else
    mc (s.1, true, ())
  else none
 else
  mc (s.1, true, ())
def tL (s : Bool × bN × Unit) : Option (Unit ⊕ aq) :=
 bif s.1 then
  bif decide (List.length ([6] : List UInt8) + List.length s.2.1.1 <= ai) then
   bif (decide (List.length (([6] : List UInt8) ++ s.2.1.1) + List.length ([1] : List UInt8) <= ai)) then
    let t0 : List UInt8 := ((([6] : List UInt8) ++ s.2.1.1) ++ ([1] : List UInt8))
    some (.inr (t0, 0, ()))
   else none
  else none
 else
  some (.inl (()))
def ni (s : Rz) : Option (Unit ⊕ aq) :=
 bif s.1 then
  bif decide (List.length s.2.1.1 + List.length ([3] : List UInt8) <= ai) then
   bif (decide (List.length (s.2.1.1 ++ ([3] : List UInt8)) + List.length s.2.1.2.2.2.1 <= ai)) then
    let t0 : List UInt8 := ((s.2.1.1 ++ ([3] : List UInt8)) ++ s.2.1.2.2.2.1)
    some (.inr (t0, 0, ()))
   else none
  else none
 else
  bif decide (s.2.1.2.1 = 4) then
   let t0 := (Ty.eqb bg s.2.1 (s.2.2.1, (s.2.2.2.1, (s.2.2.2.2.1, (s.2.2.2.2.2.1, ())))))
   match tL (t0, s.2.1, ()) with
   | none => none
   | some (.inl z1) =>
    some (.inl (()))
   | some (.inr z1) =>
    some (.inr (z1.1, z1.2.1, ()))
  else
   match tL (false, s.2.1, ()) with
   | none => none
   | some (.inl z0) =>
    some (.inl (()))
   | some (.inr z0) =>
    some (.inr (z0.1, z0.2.1, ()))
def jN (s : Rz) : Option (Unit ⊕ aq) :=
 bif s.1 then
  let t0 : Int := (Int.fdiv s.2.1.2.2.1 (2 ^ (min (Int.toNat 8) IntKind.i64.bits)))
  let t1 : List UInt8 := (oi ([2, (IntKind.u8.wrap t0), (IntKind.u8.wrap s.2.1.2.2.1)] : List Int))
  bif decide (List.length s.2.1.1 + List.length t1 <= ai) then
   some (.inr ((s.2.1.1 ++ t1), 0, ()))
  else none
 else
  bif decide (s.2.1.2.1 = 3) then
   let t0 := decide (s.2.1.2.2.1 = 0)
   bif t0 then
    match ada (s.2.1.2.2.2.1, ()) with
    | none => none
    | some r1 =>
     match ni (r1.1, s.2.1, s.2.2.1, s.2.2.2.1, s.2.2.2.2.1, s.2.2.2.2.2.1, ()) with
     | none => none
     | some (.inl z2) =>
      some (.inl (()))
     | some (.inr z2) =>
      some (.inr (z2.1, z2.2.1, ()))
   else
    match ni (false, s.2.1, s.2.2.1, s.2.2.2.1, s.2.2.2.2.1, s.2.2.2.2.2.1, ()) with
    | none => none
    | some (.inl z1) =>
     some (.inl (()))
    | some (.inr z1) =>
     some (.inr (z1.1, z1.2.1, ()))
  else
   match ni (false, s.2.1, s.2.2.1, s.2.2.2.1, s.2.2.2.2.1, s.2.2.2.2.2.1, ()) with
   | none => none
   | some (.inl z0) =>
    some (.inl (()))
   | some (.inr z0) =>
    some (.inr (z0.1, z0.2.1, ()))
def tK (s : Rz) : Option (Unit ⊕ aq) :=
 bif s.1 then
  bif decide (List.length s.2.1.1 + List.length ([1] : List UInt8) <= ai) then
   some (.inr ((s.2.1.1 ++ ([1] : List UInt8)), 0, ()))
  else none
 else
  bif decide (s.2.1.2.1 = 2) then
   let t0 := decide ((s.2.1.2.2.2.1 : List UInt8) = [])
   bif t0 then
    let t1 := decide (s.2.1.2.2.1 >= 0)
    bif t1 then
     let t2 := decide (s.2.1.2.2.1 <= 60000)
     match jN (t2, s.2.1, s.2.2.1, s.2.2.2.1, s.2.2.2.2.1, s.2.2.2.2.2.1, ()) with
     | none => none
     | some (.inl z3) =>
      some (.inl (()))
     | some (.inr z3) =>
      some (.inr (z3.1, z3.2.1, ()))
    else
     match jN (false, s.2.1, s.2.2.1, s.2.2.2.1, s.2.2.2.2.1, s.2.2.2.2.2.1, ()) with
     | none => none
     | some (.inl z2) =>
      some (.inl (()))
     | some (.inr z2) =>
      some (.inr (z2.1, z2.2.1, ()))
   else
    match jN (false, s.2.1, s.2.2.1, s.2.2.2.1, s.2.2.2.2.1, s.2.2.2.2.2.1, ()) with
    | none => none
    | some (.inl z1) =>
     some (.inl (()))
    | some (.inr z1) =>
     some (.inr (z1.1, z1.2.1, ()))
  else
   match jN (false, s.2.1, s.2.2.1, s.2.2.2.1, s.2.2.2.2.1, s.2.2.2.2.2.1, ()) with
   | none => none
   | some (.inl z0) =>
    some (.inl (()))
   | some (.inr z0) =>
    some (.inr (z0.1, z0.2.1, ()))
def nj (s : Rz) : Option (Unit ⊕ aq) :=
 bif s.1 then
  bif decide (s.2.1.2.1 = 1) then
   let t0 := (Ty.eqb bg s.2.1 (s.2.2.1, (s.2.2.2.1, (s.2.2.2.2.1, (s.2.2.2.2.2.1, ())))))
   match tK (t0, s.2.1, s.2.2.1, s.2.2.2.1, s.2.2.2.2.1, s.2.2.2.2.2.1, ()) with
   | none => none
   | some (.inl z1) =>
    some (.inl (()))
   | some (.inr z1) =>
    some (.inr (z1.1, z1.2.1, ()))
  else
   match tK (false, s.2.1, s.2.2.1, s.2.2.2.1, s.2.2.2.2.1, s.2.2.2.2.2.1, ()) with
   | none => none
   | some (.inl z0) =>
    some (.inl (()))
   | some (.inr z0) =>
    some (.inr (z0.1, z0.2.1, ()))
 else
  some (.inl (()))
def anb (s : bN × Unit) : Option aq :=
 match ak5 (s.1.1, ()) with
 | none => none
 | some r0 =>
  bif !r0.1 then
   match ajv (s.1.1, ()) with
   | none => none
   | some r1 =>
    bif r1.1 then
     match nj ((!decide (s.1.2.1 = 4)), s.1, s.1.1, s.1.2.1, 0, [], ()) with
     | none => none
     | some (.inl z2) =>
      some ([], 12, ())
     | some (.inr z2) =>
      some (z2.1, z2.2.1, ())
    else
     match nj (false, s.1, s.1.1, s.1.2.1, 0, [], ()) with
     | none => none
     | some (.inl z2) =>
      some ([], 12, ())
     | some (.inr z2) =>
      some (z2.1, z2.2.1, ())
  else
   match nj (true, s.1, s.1.1, s.1.2.1, 0, [], ()) with
   | none => none
   | some (.inl z1) =>
    some ([], 12, ())
   | some (.inr z1) =>
    some (z1.1, z1.2.1, ())
def ak4 (s : List UInt8 × Unit) : Option (bN × Int × Unit) :=
 match ad5 (s.1, [], 0, 0, [], ()) with
 | none => none
 | some r0 =>
  match anb ((r0.2.1, (r0.2.2.1, (r0.2.2.2.1, (r0.2.2.2.2.1, ())))), ()) with
  | none => none
  | some r1 =>
   bif (!(!decide (r1.2.1 = 0))) then
    bif (!decide ((r1.1 : List UInt8) = s.1)) then
     some (([], (0, (0, ([], ())))), 12, ())
    else
     some ((r0.2.1, (r0.2.2.1, (r0.2.2.2.1, (r0.2.2.2.2.1, ())))), 0, ())
   else
    some (([], (0, (0, ([], ())))), 12, ())
def tM (s : ac × List UInt8 × Unit) : Option (Bool × Unit) :=
 bif (!(Op.bytesLess s.2.1 s.1.1)) then
  let t0 := decide ((s.1.2.1 : List UInt8) = [])
  bif !t0 then
   some ((Op.bytesLess s.2.1 s.1.2.1), ())
  else
   some (true, ())
 else
  some (false, ())
def iG (s : RH) : Option (RH ⊕ ((Bool × aa × List aa × Unit) ⊕ Unit)) :=
 bif decide (0 <= s.2.2.1) && decide (s.2.2.1 < (List.length s.1 : Int)) then
  let t0 := (List.getD s.1 (Int.toNat s.2.2.1) ([], ([], (0, ()))))
  let t1 := (!decide ((t0.1 : List UInt8) = s.2.2.2.1.1))
  bif t1 then
   bif decide (0 <= s.2.2.1) && decide (s.2.2.1 < (List.length s.1 : Int)) then
    let t2 := (List.getD s.1 (Int.toNat s.2.2.1) ([], ([], (0, ()))))
    bif (decide ((List.length s.2.2.2.2.1 + List.length ([t2] : List aa)) * 40 <= ai)) then
     let t3 : List aa := (s.2.2.2.2.1 ++ ([t2] : List aa))
     some (.inl (s.1, s.2.1, (IntKind.i64.wrap (s.2.2.1 + 1)), s.2.2.2.1, t3, ()))
    else none
   else none
  else
   some (.inl (s.1, s.2.1, (IntKind.i64.wrap (s.2.2.1 + 1)), s.2.2.2.1, s.2.2.2.2.1, ()))
 else none
def cV (s : RE) : Option (RH ⊕ ((Bool × aa × List aa × Unit) ⊕ Unit)) :=
 bif s.2.2.2.1 then
  bif (decide ((List.length s.2.2.2.2.2.1 + List.length ([s.2.2.2.2.1] : List aa)) * 40 <= ai)) then
   let t0 : List aa := (s.2.2.2.2.2.1 ++ ([s.2.2.2.2.1] : List aa))
   iG (s.1, true, s.2.2.1, s.2.2.2.2.1, t0, ())
  else none
 else
  iG (s.1, s.2.1, s.2.2.1, s.2.2.2.2.1, s.2.2.2.2.2.1, ())

def eK (s : RH) : Option (RH ⊕ ((Bool × aa × List aa × Unit) ⊕ Unit)) :=
 let t0 := (decide (s.2.2.1 < ((List.length s.1) : Int)))
 bif t0 then
  bif !s.2.1 then
   bif decide (0 <= s.2.2.1) && decide (s.2.2.1 < (List.length s.1 : Int)) then
    let t1 := (List.getD s.1 (Int.toNat s.2.2.1) ([], ([], (0, ()))))
    let t2 := (Op.bytesLess s.2.2.2.1.1 t1.1 || decide ((s.2.2.2.1.1 : List UInt8) = t1.1))
    cV (s.1, s.2.1, s.2.2.1, t2, s.2.2.2.1, s.2.2.2.2.1, ())
   else none
  else
   cV (s.1, s.2.1, s.2.2.1, false, s.2.2.2.1, s.2.2.2.2.1, ())
 else
  some (.inr (.inl (s.2.1, s.2.2.2.1, s.2.2.2.2.1, ())))
def vT := aR eK
def mi (s : List aa × aa × Unit) : Option (List aa × Unit) :=
 match vT (s.1, false, 0, s.2.1, [], ()) with
 | none => none
 | some (.inl z0) =>
  bif !z0.1 then
   bif (decide ((List.length z0.2.2.1 + List.length ([z0.2.1] : List aa)) * 40 <= ai)) then
    let t1 : List aa := (z0.2.2.1 ++ ([z0.2.1] : List aa))
    some (t1, ())
   else none
  else
   some (z0.2.2.1, ())
 | some (.inr z0) =>
  none
def nZ (s : List ac × List UInt8 × Int × Unit) : Option ((List ac × List UInt8 × Int × Unit) ⊕ ((Bool × Unit) ⊕ Unit)) :=
 let t0 := (decide (s.2.2.1 < ((List.length s.1) : Int)))
 bif t0 then
  bif decide (0 <= s.2.2.1) && decide (s.2.2.1 < (List.length s.1 : Int)) then
   let t1 := (List.getD s.1 (Int.toNat s.2.2.1) ([], ([], ())))
   match tM (t1, s.2.1, ()) with
   | none => none
   | some r2 =>
    bif r2.1 then
     some (.inr (.inl (true, ())))
    else
     some (.inl (s.1, s.2.1, (IntKind.i64.wrap (s.2.2.1 + 1)), ()))
  else none
 else
  some (.inr (.inr (())))
def adk := aR nZ
def abz (s : List ac × List UInt8 × Unit) : Option (Bool × Unit) :=
 match adk (s.1, s.2.1, 0, ()) with
 | none => none
 | some (.inl z0) =>
  some (z0.1, ())
 | some (.inr z0) =>
  some (false, ())
def ij (s : RK) : Option (RK ⊕ ((List aa × Unit) ⊕ Unit)) :=
 let t0 := (decide (s.2.2.1 < ((List.length s.1) : Int)))
 bif t0 then
  bif decide (0 <= s.2.2.1) && decide (s.2.2.1 < (List.length s.1 : Int)) then
   let t1 := (List.getD s.1 (Int.toNat s.2.2.1) ([], ([], (0, ()))))
   match abz (s.2.1, t1.1, ()) with
   | none => none
   | some r2 =>
    bif !r2.1 then
     bif decide (0 <= s.2.2.1) && decide (s.2.2.1 < (List.length s.1 : Int)) then
      let t3 := (List.getD s.1 (Int.toNat s.2.2.1) ([], ([], (0, ()))))
      bif (decide ((List.length s.2.2.2.1 + List.length ([t3] : List aa)) * 40 <= ai)) then
       let t4 : List aa := (s.2.2.2.1 ++ ([t3] : List aa))
       some (.inl (s.1, s.2.1, (IntKind.i64.wrap (s.2.2.1 + 1)), t4, ()))
      else none
     else none
    else
     some (.inl (s.1, s.2.1, (IntKind.i64.wrap (s.2.2.1 + 1)), s.2.2.2.1, ()))
  else none
 else
  some (.inr (.inl (s.2.2.2.1, ())))
def tO := aR ij
def gI (s : List aa × List ac × Unit) : Option (List aa × Unit) :=
 match tO (s.1, s.2.1, 0, [], ()) with
 | none => none
 | some (.inl z0) =>
  some (z0.1, ())
 | some (.inr z0) =>
  none
def iL (s : RK) : Option (RK ⊕ ((List aa × Unit) ⊕ Unit)) :=
 let t0 := (decide (s.2.2.1 < ((List.length s.1) : Int)))
 bif t0 then
  bif decide (0 <= s.2.2.1) && decide (s.2.2.1 < (List.length s.1 : Int)) then
   let t1 := (List.getD s.1 (Int.toNat s.2.2.1) ([], ([], (0, ()))))
   match abz (s.2.1, t1.1, ()) with
   | none => none
   | some r2 =>
    bif r2.1 then
     bif decide (0 <= s.2.2.1) && decide (s.2.2.1 < (List.length s.1 : Int)) then
      let t3 := (List.getD s.1 (Int.toNat s.2.2.1) ([], ([], (0, ()))))
      bif (decide ((List.length s.2.2.2.1 + List.length ([t3] : List aa)) * 40 <= ai)) then
       let t4 : List aa := (s.2.2.2.1 ++ ([t3] : List aa))
       some (.inl (s.1, s.2.1, (IntKind.i64.wrap (s.2.2.1 + 1)), t4, ()))
      else none
     else none
    else
     some (.inl (s.1, s.2.1, (IntKind.i64.wrap (s.2.2.1 + 1)), s.2.2.2.1, ()))
  else none
 else
  some (.inr (.inl (s.2.2.2.1, ())))
def vV := aR iL
def pw (s : List aa × List ac × Unit) : Option (List aa × Unit) :=
 match vV (s.1, s.2.1, 0, [], ()) with
 | none => none
 | some (.inl z0) =>
  some (z0.1, ())
 | some (.inr z0) =>
  none
def xz (s : List UInt8 × List UInt8 × List UInt8 × Unit) : Option RY :=
 match iF (s.1, s.2.1, ()) with
 | none => none
 | some r0 =>
  bif !r0.1 then
   some ([], false, ())
  else
   bif (decide (0 <= ((List.length s.2.1) : Int)) && decide ((((List.length s.2.1) : Int) : Int) <= (List.length s.1 : Int)) && decide (((List.length s.1 : Int) : Int) <= (List.length s.1 : Int))) then
    let t1 := (List.drop (Int.toNat ((List.length s.2.1) : Int)) (List.take (Int.toNat (List.length s.1 : Int)) s.1))
    bif decide (List.length s.2.2.1 + List.length t1 <= ai) then
     some ((s.2.2.1 ++ t1), true, ())
    else none
   else none
def mg (s : Int × ae × List aa × Unit) : Option ((Int × ae × List aa × Unit) ⊕ ((List aa × Unit) ⊕ Unit)) :=
 let t0 := (decide (s.1 < ((List.length s.2.2.1) : Int)))
 bif t0 then
  bif decide (0 <= s.1) && decide (s.1 < (List.length s.2.2.1 : Int)) then
   let t1 := (List.getD s.2.2.1 (Int.toNat s.1) ([], ([], (0, ()))))
   match tM (s.2.1.2.2.2.1, t1.1, ()) with
   | none => none
   | some r2 =>
    bif r2.1 then
     bif decide (0 <= s.1) && decide (s.1 < (List.length s.2.2.1 : Int)) then
      let t3 := (List.set s.2.2.1 (Int.toNat s.1) ((List.getD s.2.2.1 (Int.toNat s.1) ([], ([], (0, ())))).1, ((List.getD s.2.2.1 (Int.toNat s.1) ([], ([], (0, ())))).2.1, (s.2.1.2.2.2.2.2.2.1, (List.getD s.2.2.1 (Int.toNat s.1) ([], ([], (0, ())))).2.2.2))))
      some (.inl ((IntKind.i64.wrap (s.1 + 1)), s.2.1, t3, ()))
     else none
    else
     some (.inl ((IntKind.i64.wrap (s.1 + 1)), s.2.1, s.2.2.1, ()))
  else none
 else
  some (.inr (.inl (s.2.2.1, ())))
def x9 := aR mg
def mh (s : Int × ae × List aa × List aa × Unit) : Option ((Int × ae × List aa × List aa × Unit) ⊕ ((List aa × Unit) ⊕ Unit)) :=
 let t0 := (decide (s.1 < ((List.length s.2.2.2.1) : Int)))
 bif t0 then
  bif decide (0 <= s.1) && decide (s.1 < (List.length s.2.2.2.1 : Int)) then
   let t1 := (List.getD s.2.2.2.1 (Int.toNat s.1) ([], ([], (0, ()))))
   match xz (t1.1, s.2.1.2.2.2.2.1, s.2.1.2.2.2.2.2.1, ()) with
   | none => none
   | some r2 =>
    bif decide (0 <= s.1) && decide (s.1 < (List.length s.2.2.2.1 : Int)) then
     let t3 := (List.getD s.2.2.2.1 (Int.toNat s.1) ([], ([], (0, ()))))
     bif decide (0 <= s.1) && decide (s.1 < (List.length s.2.2.2.1 : Int)) then
      let t4 := (List.getD s.2.2.2.1 (Int.toNat s.1) ([], ([], (0, ()))))
      match mi (s.2.2.1, (r2.1, (t3.2.1, (t4.2.2.1, ()))), ()) with
      | none => none
      | some r5 =>
       some (.inl ((IntKind.i64.wrap (s.1 + 1)), s.2.1, r5.1, s.2.2.2.1, ()))
     else none
    else none
  else none
 else
  some (.inr (.inl (s.2.2.1, ())))
def qT := aR mh
def jv (s : List aa × ae × Unit) : Option (List aa × Unit) :=
 bif decide (s.2.1.1 = 1) then
  match mi (s.1, (s.2.1.2.1, (s.2.1.2.2.1, (s.2.1.2.2.2.2.2.2.1, ()))), ()) with
  | none => none
  | some r0 =>
   some (r0.1, ())
 else
  bif decide (s.2.1.1 = 2) then
   match gh (s.2.1.2.1, ()) with
   | none => none
   | some r0 =>
    match gI (s.1, ([r0.1] : List ac), ()) with
    | none => none
    | some r1 =>
     some (r1.1, ())
  else
   bif decide (s.2.1.1 = 3) then
    match gI (s.1, ([s.2.1.2.2.2.1] : List ac), ()) with
    | none => none
    | some r0 =>
     some (r0.1, ())
   else
    bif decide (s.2.1.1 = 6) then
     bif (decide ((List.length ([] : List aa) + List.length s.1) * 40 <= ai)) then
      let t0 : List aa := ([] ++ s.1)
      match x9 (0, s.2.1, t0, ()) with
      | none => none
      | some (.inl z1) =>
       some (z1.1, ())
      | some (.inr z1) =>
       none
     else none
    else
     match ref02_Prefix (s.2.1.2.2.2.2.2.1, ()) with
     | none => none
     | some r0 =>
      match gI (s.1, ([r0.1] : List ac), ()) with
      | none => none
      | some r1 =>
       match ref02_Prefix (s.2.1.2.2.2.2.1, ()) with
       | none => none
       | some r2 =>
        match pw (s.1, ([r2.1] : List ac), ()) with
        | none => none
        | some r3 =>
         bif decide (s.2.1.1 = 4) then
          match ref02_Prefix (s.2.1.2.2.2.2.1, ()) with
          | none => none
          | some r4 =>
           match gI (r1.1, ([r4.1] : List ac), ()) with
           | none => none
           | some r5 =>
            match qT (0, s.2.1, r5.1, r3.1, ()) with
            | none => none
            | some (.inl z6) =>
             some (z6.1, ())
            | some (.inr z6) =>
             none
         else
          match qT (0, s.2.1, r1.1, r3.1, ()) with
          | none => none
          | some (.inl z4) =>
           some (z4.1, ())
          | some (.inr z4) =>
           none
end D
