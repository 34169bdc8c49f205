import Derived.Test.YtmmmpanpbphkdaaGreatDoorDa
set_option linter.unusedVariables false
open Go Go.X
open Go.IntKind (i64)
namespace D
def vY (s:jJ):Option (Int×Unit):=
 bif (decide (0<=(IntKind.u8.wrap s.1))&&decide (((IntKind.u8.wrap s.1):Int)<(List.length ([0,1,2,2,3,3,3,3,4,4,4,4,4,4,4,4,5,5,5,5,5,5,5,5,5,5,5,5,5,5,5,5,6,6,6,6,6,6,6,6,6,6,6,6,6,6,6,6,6,6,6,6,6,6,6,6,6,6,6,6,6,6,6,6,7,7,7,7,7,7,7,7,7,7,7,7,7,7,7,7,7,7,7,7,7,7,7,7,7,7,7,7,7,7,7,7,7,7,7,7,7,7,7,7,7,7,7,7,7,7,7,7,7,7,7,7,7,7,7,7,7,7,7,7,7,7,7,7,8,8,8,8,8,8,8,8,8,8,8,8,8,8,8,8,8,8,8,8,8,8,8,8,8,8,8,8,8,8,8,8,8,8,8,8,8,8,8,8,8,8,8,8,8,8,8,8,8,8,8,8,8,8,8,8,8,8,8,8,8,8,8,8,8,8,8,8,8,8,8,8,8,8,8,8,8,8,8,8,8,8,8,8,8,8,8,8,8,8,8,8,8,8,8,8,8,8,8,8,8,8,8,8,8,8,8,8,8,8,8,8,8,8,8,8,8,8,8,8,8,8,8,8,8,8,8,8]:af):Int))) then
  let t0:Int:=((List.getD ([0,1,2,2,3,3,3,3,4,4,4,4,4,4,4,4,5,5,5,5,5,5,5,5,5,5,5,5,5,5,5,5,6,6,6,6,6,6,6,6,6,6,6,6,6,6,6,6,6,6,6,6,6,6,6,6,6,6,6,6,6,6,6,6,7,7,7,7,7,7,7,7,7,7,7,7,7,7,7,7,7,7,7,7,7,7,7,7,7,7,7,7,7,7,7,7,7,7,7,7,7,7,7,7,7,7,7,7,7,7,7,7,7,7,7,7,7,7,7,7,7,7,7,7,7,7,7,7,8,8,8,8,8,8,8,8,8,8,8,8,8,8,8,8,8,8,8,8,8,8,8,8,8,8,8,8,8,8,8,8,8,8,8,8,8,8,8,8,8,8,8,8,8,8,8,8,8,8,8,8,8,8,8,8,8,8,8,8,8,8,8,8,8,8,8,8,8,8,8,8,8,8,8,8,8,8,8,8,8,8,8,8,8,8,8,8,8,8,8,8,8,8,8,8,8,8,8,8,8,8,8,8,8,8,8,8,8,8,8,8,8,8,8,8,8,8,8,8,8,8,8,8,8,8,8,8]:af) (Int.toNat (IntKind.u8.wrap s.1)) 0).toNat:Int)
  let t1:=i64.wrap (s.2.1+(i64.wrap t0))
  some (t1,())
 else none
def FH (s:jJ):Option (Int×Unit):=
 bif decide (s.1>=256) then
  let t0:Int:=(Int.fdiv s.1 (2^(min (Int.toNat 8) IntKind.u64.bits)))
  vY (t0,(i64.wrap (s.2.1+8)),())
 else
  vY (s.1,s.2.1,())
def vX (s:jJ):Option (Int×Unit):=
 bif decide (s.1>=65536) then
  let t0:Int:=(Int.fdiv s.1 (2^(min (Int.toNat 16) IntKind.u64.bits)))
  FH (t0,(i64.wrap (s.2.1+16)),())
 else
  FH (s.1,s.2.1,())
def Pp (s:Int×Unit):Option (Int×Unit):=
 let t0:=decide (s.1>=4294967296)
 bif t0 then
  let t1:Int:=(Int.fdiv s.1 (2^(min (Int.toNat 32) IntKind.u64.bits)))
  vX (t1,32,())
 else
  vX (s.1,0,())
def pi (s:Int×Unit):Option (Int×Unit):=
 match Pp (s.1,()) with
 |none=>none
 |some aj=>
  some (aj.1,())
def FG (s:ah):Option (Int×Unit):=
 match s6 (s.1,()) with
 |none=>none
 |some aj=>
  match s6 (s.2.1,()) with
  |none=>none
  |some ar=>
   bif aj.1 then
    bif ar.1 then
     some (0,())
    else
     some ((-1:Int),())
   else
    bif ar.1 then
     some (1,())
    else
     bif (Op.bytesLess s.1 s.2.1) then
      some ((-1:Int),())
     else
      let t2:=(!(Op.bytesLess s.1 s.2.1||decide ((s.1:af)=s.2.1)))
      bif t2 then
       some (1,())
      else
       some (0,())
def jA (s:r2):Option (Int×Unit):=
 match FG (s.1.1,s.2.1.1,()) with
 |none=>none
 |some aj=>
  some (aj.1,())
def yH (s:QX):Option (kk⊕(dX⊕Unit)):=
 bif s.2.2.2.2.1 then
  let t0:=i64.wrap (s.2.2.2.1-1)
  let t1:=i64.wrap (s.2.2.2.1-1)
  bif decide (0<=t1)&&decide (t1<(List.length s.2.2.2.2.2.1:Int)) then
   let t2:=(List.getD s.2.2.2.2.2.1 (Int.toNat t1) ([],([],())))
   bif decide (0<=s.2.2.2.1)&&decide (s.2.2.2.1<(List.length s.2.2.2.2.2.1:Int)) then
    let t3:=(List.getD s.2.2.2.2.2.1 (Int.toNat s.2.2.2.1) ([],([],())))
    bif decide (0<=s.2.2.2.1)&&decide (s.2.2.2.1<(List.length s.2.2.2.2.2.1:Int)) then
     let t4:=(List.set s.2.2.2.2.2.1 (Int.toNat s.2.2.2.1) t2)
     bif decide (0<=t0)&&decide (t0<(List.length t4:Int)) then
      let t5:=i64.wrap (s.2.2.2.1-1)
      some (.inl (s.1,s.2.1,s.2.2.1,t5,(List.set t4 (Int.toNat t0) t3),()))
     else none
    else none
   else none
  else none
 else
  some (.inr (.inl (s.1,s.2.1,s.2.2.1,s.2.2.2.2.2.1,())))
def u9 (s:kk):Option (kk⊕(dX⊕Unit)):=
 bif decide (s.2.2.2.1>s.1) then
  bif decide (0<=s.2.2.2.1)&&decide (s.2.2.2.1<(List.length s.2.2.2.2.1:Int)) then
   let t0:=(List.getD s.2.2.2.2.1 (Int.toNat s.2.2.2.1) ([],([],())))
   let t1:=i64.wrap (s.2.2.2.1-1)
   bif decide (0<=t1)&&decide (t1<(List.length s.2.2.2.2.1:Int)) then
    let t2:=(List.getD s.2.2.2.2.1 (Int.toNat t1) ([],([],())))
    match jA (t0,t2,()) with
    |none=>none
    |some bF=>
     yH (s.1,s.2.1,s.2.2.1,s.2.2.2.1,(decide (bF.1<0)),s.2.2.2.2.1,())
   else none
  else none
 else
  yH (s.1,s.2.1,s.2.2.1,s.2.2.2.1,false,s.2.2.2.2.1,())
def Ey:=bM u9
def y1 (s:dX):Option (dX⊕((List ah×Unit)⊕Unit)):=
 bif decide (s.2.2.1<s.2.1) then
  match Ey (s.1,s.2.1,s.2.2.1,s.2.2.1,s.2.2.2.1,()) with
  |none=>none
  |some (.inl z0)=>
   let t1:=i64.wrap (z0.2.2.1+1)
   some (.inl (z0.1,z0.2.1,t1,z0.2.2.2.1,()))
  |some (.inr z0)=>
   none
 else
  some (.inr (.inl (s.2.2.2.1,())))
def Mp:=bM y1
def Ek (s:ki):Option (List ah×Unit):=
 match Mp (s.1,s.2.1,(i64.wrap (s.1+1)),s.2.2.1,()) with
 |none=>none
 |some (.inl z0)=>
  some (z0.1,())
 |some (.inr z0)=>
  none
def za (s:kk):Option (dX⊕((List ah×Unit)⊕(List ah×Unit))):=
 bif (decide (0<=(i64.wrap (s.2.1+s.2.2.1)))&&decide (((i64.wrap (s.2.1+s.2.2.1)):Int)<(List.length s.2.2.2.2.1:Int))) then
  let t0:=(List.getD s.2.2.2.2.1 (Int.toNat (i64.wrap (s.2.1+s.2.2.1))) ([],([],())))
  bif (decide (0<=(i64.wrap (s.2.1+s.2.2.2.1)))&&decide (((i64.wrap (s.2.1+s.2.2.2.1)):Int)<(List.length s.2.2.2.2.1:Int))) then
   let t1:=(List.getD s.2.2.2.2.1 (Int.toNat (i64.wrap (s.2.1+s.2.2.2.1))) ([],([],())))
   match jA (t0,t1,()) with
   |none=>none
   |some aM=>
    bif (!(decide (aM.1<0))) then
     some (.inr (.inr (s.2.2.2.2.1,())))
    else
     bif (decide (0<=(i64.wrap (s.2.1+s.2.2.2.1)))&&decide (((i64.wrap (s.2.1+s.2.2.2.1)):Int)<(List.length s.2.2.2.2.1:Int))) then
      let t3:=(List.getD s.2.2.2.2.1 (Int.toNat (i64.wrap (s.2.1+s.2.2.2.1))) ([],([],())))
      bif (decide (0<=(i64.wrap (s.2.1+s.2.2.1)))&&decide (((i64.wrap (s.2.1+s.2.2.1)):Int)<(List.length s.2.2.2.2.1:Int))) then
       let t4:=(List.getD s.2.2.2.2.1 (Int.toNat (i64.wrap (s.2.1+s.2.2.1))) ([],([],())))
       bif (decide (0<=(i64.wrap (s.2.1+s.2.2.1)))&&decide (((i64.wrap (s.2.1+s.2.2.1)):Int)<(List.length s.2.2.2.2.1:Int))) then
        let t5:=(List.set s.2.2.2.2.1 (Int.toNat (i64.wrap (s.2.1+s.2.2.1))) t3)
        bif (decide (0<=(i64.wrap (s.2.1+s.2.2.2.1)))&&decide (((i64.wrap (s.2.1+s.2.2.2.1)):Int)<(List.length t5:Int))) then
         let t6:=(List.set t5 (Int.toNat (i64.wrap (s.2.1+s.2.2.2.1))) t4)
         some (.inl (s.1,s.2.1,s.2.2.2.1,t6,()))
        else none
       else none
      else none
     else none
  else none
 else none
def yT (s:QX):Option (dX⊕((List ah×Unit)⊕(List ah×Unit))):=
 bif s.2.2.2.2.1 then
  let t0:=i64.wrap (s.2.2.2.1+1)
  za (s.1,s.2.1,s.2.2.1,t0,s.2.2.2.2.2.1,())
 else
  za (s.1,s.2.1,s.2.2.1,s.2.2.2.1,s.2.2.2.2.2.1,())
def sx (s:dX):Option (dX⊕((List ah×Unit)⊕(List ah×Unit))):=
 let t0:=(i64.wrap ((i64.wrap (2*s.2.2.1))+1))
 bif decide (t0>=s.1) then
  some (.inr (.inl (s.2.2.2.1,())))
 else
  let t1:=(decide (((i64.wrap (t0+1)):Int)<s.1))
  bif t1 then
   bif (decide (0<=(i64.wrap (s.2.1+t0)))&&decide (((i64.wrap (s.2.1+t0)):Int)<(List.length s.2.2.2.1:Int))) then
    let t2:=(List.getD s.2.2.2.1 (Int.toNat (i64.wrap (s.2.1+t0))) ([],([],())))
    let t3:=(i64.wrap ((i64.wrap (s.2.1+t0))+1))
    bif decide (0<=t3)&&decide (t3<(List.length s.2.2.2.1:Int)) then
     let t4:=(List.getD s.2.2.2.1 (Int.toNat t3) ([],([],())))
     match jA (t2,t4,()) with
     |none=>none
     |some fH=>
      yT (s.1,s.2.1,s.2.2.1,t0,(decide (fH.1<0)),s.2.2.2.1,())
    else none
   else none
  else
   yT (s.1,s.2.1,s.2.2.1,t0,false,s.2.2.2.1,())
def N4:=bM sx
def ze (s:dX):Option (List ah×Unit):=
 match N4 (s.2.1,s.2.2.1,s.1,s.2.2.2.1,()) with
 |none=>none
 |some (.inl z0)=>
  some (z0.1,())
 |some (.inr z0)=>
  some (z0.1,())
def yY (s:kk):Option (kk⊕(dX⊕Unit)):=
 bif decide (s.2.2.2.1>=0) then
  match ze (s.2.2.2.1,s.2.2.1,s.1,s.2.2.2.2.1,()) with
  |none=>none
  |some aj=>
   let t1:=i64.wrap (s.2.2.2.1-1)
   some (.inl (s.1,s.2.1,s.2.2.1,t1,aj.1,()))
 else
  some (.inr (.inl (s.1,s.2.1,s.2.2.1,s.2.2.2.2.1,())))
def MO:=bM yY
def yZ (s:dX):Option (dX⊕((List ah×Unit)⊕Unit)):=
 bif decide (s.2.2.1>=0) then
  bif (decide (0<=(i64.wrap (s.1+s.2.2.1)))&&decide (((i64.wrap (s.1+s.2.2.1)):Int)<(List.length s.2.2.2.1:Int))) then
   let t0:=(List.getD s.2.2.2.1 (Int.toNat (i64.wrap (s.1+s.2.2.1))) ([],([],())))
   bif decide (0<=s.1)&&decide (s.1<(List.length s.2.2.2.1:Int)) then
    let t1:=(List.getD s.2.2.2.1 (Int.toNat s.1) ([],([],())))
    bif decide (0<=s.1)&&decide (s.1<(List.length s.2.2.2.1:Int)) then
     bif (decide (0<=(i64.wrap (s.1+s.2.2.1)))&&decide (((i64.wrap (s.1+s.2.2.1)):Int)<(List.length (List.set s.2.2.2.1 (Int.toNat s.1) t0):Int))) then
      let t2:=(List.set (List.set s.2.2.2.1 (Int.toNat s.1) t0) (Int.toNat (i64.wrap (s.1+s.2.2.1))) t1)
      match ze (s.2.1,s.2.2.1,s.1,t2,()) with
      |none=>none
      |some bF=>
       some (.inl (s.1,s.2.1,(i64.wrap (s.2.2.1-1)),bF.1,()))
     else none
    else none
   else none
  else none
 else
  some (.inr (.inl (s.2.2.2.1,())))
def MR:=bM yZ
def EL (s:ki):Option (List ah×Unit):=
 let t0:=(i64.wrap ((i64.wrap (s.2.1-s.1))-1))
 let t1:=i64.wrap (Int.tdiv t0 2)
 match MO (s.1,0,(i64.wrap (s.2.1-s.1)),t1,s.2.2.1,()) with
 |none=>none
 |some (.inl z2)=>
  let t3:=i64.wrap (z2.2.2.1-1)
  match MR (z2.1,z2.2.1,t3,z2.2.2.2.1,()) with
  |none=>none
  |some (.inl z4)=>
   some (z4.1,())
  |some (.inr z4)=>
   none
 |some (.inr z2)=>
  none
def vh (s:Int×Int×List ah×Int×Unit):Option (Int×Int×List ah×Int×Unit):=
 bif decide (0<=s.2.1)&&decide (s.2.1<(List.length s.2.2.1:Int)) then
  let t0:=(List.getD s.2.2.1 (Int.toNat s.2.1) ([],([],())))
  bif decide (0<=s.1)&&decide (s.1<(List.length s.2.2.1:Int)) then
   let t1:=(List.getD s.2.2.1 (Int.toNat s.1) ([],([],())))
   match jA (t0,t1,()) with
   |none=>none
   |some aM=>
    bif decide (aM.1<0) then
     let t3:=i64.wrap (s.2.2.2.1+1)
     some (s.2.1,s.1,s.2.2.1,t3,())
    else
     some (s.1,s.2.1,s.2.2.1,s.2.2.2.1,())
  else none
 else none
def zb (s:Int×Int×Int×List ah×Int×Unit):Option Hy:=
 match vh (s.1,s.2.1,s.2.2.2.1,s.2.2.2.2.1,()) with
 |none=>none
 |some aj=>
  match vh (aj.2.1,s.2.2.1,aj.2.2.1,aj.2.2.2.1,()) with
  |none=>none
  |some ar=>
   match vh (aj.1,ar.1,ar.2.2.1,ar.2.2.2.1,()) with
   |none=>none
   |some aM=>
    some (aM.2.1,aM.2.2.1,aM.2.2.2.1,())
def vd (s:Hy):Option Hy:=
 match zb ((i64.wrap (s.1-1)),s.1,(i64.wrap (s.1+1)),s.2.1,s.2.2.1,()) with
 |none=>none
 |some aj=>
  some (aj.1,aj.2.1,aj.2.2.1,())
def EB (s:Int×Int×Int×List ah×Int×Unit):Option ki:=
 match zb (s.1,s.2.1,s.2.2.1,s.2.2.2.1,s.2.2.2.2.1,()) with
 |none=>none
 |some aj=>
  bif decide (aj.2.2.1=0) then
   some (aj.1,1,aj.2.1,())
  else
   bif decide (aj.2.2.1=12) then
    some (aj.1,2,aj.2.1,())
   else
    some (aj.1,0,aj.2.1,())
def EI (s:ki):Option ki:=
 let t0:=(i64.wrap (Int.tdiv (i64.wrap (s.2.1-s.1)) 4))
 let t1:=(i64.wrap (s.1+(i64.wrap (t0*1))))
 let t2:=(i64.wrap (Int.tdiv (i64.wrap (s.2.1-s.1)) 4))
 let t3:=(i64.wrap (s.1+(i64.wrap (t2*2))))
 let t4:=(i64.wrap (Int.tdiv (i64.wrap (s.2.1-s.1)) 4))
 let t5:=(i64.wrap (s.1+(i64.wrap (t4*3))))
 let t6:=(decide (((i64.wrap (s.2.1-s.1)):Int)>=8))
 bif t6 then
  let t7:=(decide (((i64.wrap (s.2.1-s.1)):Int)>=50))
  bif t7 then
   match vd (t1,s.2.2.1,0,()) with
   |none=>none
   |some rm=>
    match vd (t3,rm.2.1,rm.2.2.1,()) with
    |none=>none
    |some l6=>
     match vd (t5,l6.2.1,l6.2.2.1,()) with
     |none=>none
     |some l5=>
      EB (rm.1,l6.1,l5.1,l5.2.1,l5.2.2.1,())
  else
   EB (t1,t3,t5,s.2.2.1,0,())
 else
  bif decide ((0:Int)=0) then
   some (t3,1,s.2.2.1,())
  else
   let t7:=decide ((0:Int)=12)
   bif t7 then
    some (t3,2,s.2.2.1,())
   else
    some (t3,0,s.2.2.1,())
def y5 (s:ki):Option (ki⊕((List ah×Unit)⊕Unit)):=
 bif decide (s.1<s.2.1) then
  bif decide (0<=s.2.1)&&decide (s.2.1<(List.length s.2.2.1:Int)) then
   let t0:=(List.getD s.2.2.1 (Int.toNat s.2.1) ([],([],())))
   bif decide (0<=s.1)&&decide (s.1<(List.length s.2.2.1:Int)) then
    let t1:=(List.getD s.2.2.1 (Int.toNat s.1) ([],([],())))
    bif decide (0<=s.1)&&decide (s.1<(List.length s.2.2.1:Int)) then
     bif (decide (0<=s.2.1)&&decide (s.2.1<(List.length (List.set s.2.2.1 (Int.toNat s.1) t0):Int))) then
      let t2:=(List.set (List.set s.2.2.1 (Int.toNat s.1) t0) (Int.toNat s.2.1) t1)
      some (.inl ((i64.wrap (s.1+1)),(i64.wrap (s.2.1-1)),t2,()))
     else none
    else none
   else none
  else none
 else
  some (.inr (.inl (s.2.2.1,())))
def Mf:=bM y5
def yX (s:ki):Option (List ah×Unit):=
 match Mf (s.1,(i64.wrap (s.2.1-1)),s.2.2.1,()) with
 |none=>none
 |some (.inl z0)=>
  some (z0.1,())
 |some (.inr z0)=>
  none
def yQ (s:kk):Option (kk⊕(kk⊕Unit)):=
 bif decide (s.2.2.1<s.2.1) then
  bif decide (0<=s.2.2.1)&&decide (s.2.2.1<(List.length s.2.2.2.2.1:Int)) then
   let t0:=(List.getD s.2.2.2.2.1 (Int.toNat s.2.2.1) ([],([],())))
   bif (decide (0<=(i64.wrap (s.2.2.1-1)))&&decide (((i64.wrap (s.2.2.1-1)):Int)<(List.length s.2.2.2.2.1:Int))) then
    let t1:=(List.getD s.2.2.2.2.1 (Int.toNat (i64.wrap (s.2.2.1-1))) ([],([],())))
    match jA (t0,t1,()) with
    |none=>none
    |some aM=>
     bif (!(decide (aM.1<0))) then
      some (.inl (s.1,s.2.1,(i64.wrap (s.2.2.1+1)),s.2.2.2.1,s.2.2.2.2.1,()))
     else
      some (.inr (.inl (s.1,s.2.1,s.2.2.1,s.2.2.2.1,s.2.2.2.2.1,())))
   else none
  else none
 else
  some (.inr (.inl (s.1,s.2.1,s.2.2.1,s.2.2.2.1,s.2.2.2.2.1,())))
def ci:=bM yQ
def yR (s:uw):Option (uw⊕(kk⊕Unit)):=
 let t0:=decide (s.2.2.2.2.1>=1)
 bif t0 then
  bif decide (0<=s.2.2.2.2.1)&&decide (s.2.2.2.2.1<(List.length s.2.2.2.2.2.1:Int)) then
   let t1:=(List.getD s.2.2.2.2.2.1 (Int.toNat s.2.2.2.2.1) ([],([],())))
   let t2:=i64.wrap (s.2.2.2.2.1-1)
   bif decide (0<=t2)&&decide (t2<(List.length s.2.2.2.2.2.1:Int)) then
    let t3:=(List.getD s.2.2.2.2.2.1 (Int.toNat t2) ([],([],())))
    match jA (t1,t3,()) with
    |none=>none
    |some cT=>
     bif (!(decide (cT.1<0))) then
      some (.inr (.inl (s.1,s.2.1,s.2.2.1,s.2.2.2.1,s.2.2.2.2.2.1,())))
     else
      let t5:=i64.wrap (s.2.2.2.2.1-1)
      let t6:=i64.wrap (s.2.2.2.2.1-1)
      bif decide (0<=t6)&&decide (t6<(List.length s.2.2.2.2.2.1:Int)) then
       let t7:=(List.getD s.2.2.2.2.2.1 (Int.toNat t6) ([],([],())))
       bif decide (0<=s.2.2.2.2.1)&&decide (s.2.2.2.2.1<(List.length s.2.2.2.2.2.1:Int)) then
        let t8:=(List.getD s.2.2.2.2.2.1 (Int.toNat s.2.2.2.2.1) ([],([],())))
        bif decide (0<=s.2.2.2.2.1)&&decide (s.2.2.2.2.1<(List.length s.2.2.2.2.2.1:Int)) then
         let t9:=(List.set s.2.2.2.2.2.1 (Int.toNat s.2.2.2.2.1) t7)
         bif decide (0<=t5)&&decide (t5<(List.length t9:Int)) then
          let t10:=i64.wrap (s.2.2.2.2.1-1)
          some (.inl (s.1,s.2.1,s.2.2.1,s.2.2.2.1,t10,(List.set t9 (Int.toNat t5) t8),()))
         else none
        else none
       else none
      else none
   else none
  else none
 else
  some (.inr (.inl (s.1,s.2.1,s.2.2.1,s.2.2.2.1,s.2.2.2.2.2.1,())))
def Ei:=bM yR
def yS (s:uw):Option (uw⊕(kk⊕Unit)):=
 bif decide (s.2.2.2.2.1<s.2.1) then
  bif decide (0<=s.2.2.2.2.1)&&decide (s.2.2.2.2.1<(List.length s.2.2.2.2.2.1:Int)) then
   let t0:=(List.getD s.2.2.2.2.2.1 (Int.toNat s.2.2.2.2.1) ([],([],())))
   let t1:=i64.wrap (s.2.2.2.2.1-1)
   bif decide (0<=t1)&&decide (t1<(List.length s.2.2.2.2.2.1:Int)) then
    let t2:=(List.getD s.2.2.2.2.2.1 (Int.toNat t1) ([],([],())))
    match jA (t0,t2,()) with
    |none=>none
    |some bF=>
     bif (!(decide (bF.1<0))) then
      some (.inr (.inl (s.1,s.2.1,s.2.2.1,s.2.2.2.1,s.2.2.2.2.2.1,())))
     else
      let t4:=i64.wrap (s.2.2.2.2.1-1)
      let t5:=i64.wrap (s.2.2.2.2.1-1)
      bif decide (0<=t5)&&decide (t5<(List.length s.2.2.2.2.2.1:Int)) then
       let t6:=(List.getD s.2.2.2.2.2.1 (Int.toNat t5) ([],([],())))
       bif decide (0<=s.2.2.2.2.1)&&decide (s.2.2.2.2.1<(List.length s.2.2.2.2.2.1:Int)) then
        let t7:=(List.getD s.2.2.2.2.2.1 (Int.toNat s.2.2.2.2.1) ([],([],())))
        bif decide (0<=s.2.2.2.2.1)&&decide (s.2.2.2.2.1<(List.length s.2.2.2.2.2.1:Int)) then
         let t8:=(List.set s.2.2.2.2.2.1 (Int.toNat s.2.2.2.2.1) t6)
         bif decide (0<=t4)&&decide (t4<(List.length t8:Int)) then
          let t9:=i64.wrap (s.2.2.2.2.1+1)
          some (.inl (s.1,s.2.1,s.2.2.1,s.2.2.2.1,t9,(List.set t8 (Int.toNat t4) t7),()))
         else none
        else none
       else none
      else none
   else none
  else none
 else
  some (.inr (.inl (s.1,s.2.1,s.2.2.1,s.2.2.2.1,s.2.2.2.2.2.1,())))
def Ej:=bM yS
def yP (s:kk):Option (kk⊕((Bool×List ah×Unit)⊕(List ah×Unit))):=
 let t0:=(decide (((i64.wrap (s.2.1-s.2.2.1)):Int)>=2))
 bif t0 then
  match Ej (s.1,s.2.1,s.2.2.1,s.2.2.2.1,(i64.wrap (s.2.2.1+1)),s.2.2.2.2.1,()) with
  |none=>none
  |some (.inl aH)=>
   let t2:=i64.wrap (aH.2.2.2.1+1)
   some (.inl (aH.1,aH.2.1,aH.2.2.1,t2,aH.2.2.2.2.1,()))
  |some (.inr aH)=>
   none
 else
  let t1:=i64.wrap (s.2.2.2.1+1)
  some (.inl (s.1,s.2.1,s.2.2.1,t1,s.2.2.2.2.1,()))
def bv (s:kk):Option (kk⊕((Bool×List ah×Unit)⊕(List ah×Unit))):=
 bif decide (s.2.2.2.1<5) then
  match ci (s.1,s.2.1,s.2.2.1,s.2.2.2.1,s.2.2.2.2.1,()) with
  |none=>none
  |some (.inl z0)=>
   bif decide (z0.2.2.1=z0.2.1) then
    some (.inr (.inl (true,z0.2.2.2.2.1,())))
   else
    let t1:=(decide (((i64.wrap (z0.2.1-z0.1)):Int)<50))
    bif t1 then
     some (.inr (.inl (false,z0.2.2.2.2.1,())))
    else
     let t2:=i64.wrap (z0.2.2.1-1)
     let t3:=i64.wrap (z0.2.2.1-1)
     bif decide (0<=t3)&&decide (t3<(List.length z0.2.2.2.2.1:Int)) then
      let t4:=(List.getD z0.2.2.2.2.1 (Int.toNat t3) ([],([],())))
      bif decide (0<=z0.2.2.1)&&decide (z0.2.2.1<(List.length z0.2.2.2.2.1:Int)) then
       let t5:=(List.getD z0.2.2.2.2.1 (Int.toNat z0.2.2.1) ([],([],())))
       bif decide (0<=z0.2.2.1)&&decide (z0.2.2.1<(List.length z0.2.2.2.2.1:Int)) then
        let t6:=(List.set z0.2.2.2.2.1 (Int.toNat z0.2.2.1) t4)
        bif decide (0<=t2)&&decide (t2<(List.length t6:Int)) then
         let t7:=(decide (((i64.wrap (z0.2.2.1-z0.1)):Int)>=2))
         bif t7 then
          let t8:=i64.wrap (z0.2.2.1-1)
          match Ei (z0.1,z0.2.1,z0.2.2.1,z0.2.2.2.1,t8,(List.set t6 (Int.toNat t2) t5),()) with
          |none=>none
          |some (.inl z9)=>
           yP (z9.1,z9.2.1,z9.2.2.1,z9.2.2.2.1,z9.2.2.2.2.1,())
          |some (.inr z9)=>
           none
         else
          yP (z0.1,z0.2.1,z0.2.2.1,z0.2.2.2.1,(List.set t6 (Int.toNat t2) t5),())
        else none
       else none
      else none
     else none
  |some (.inr z0)=>
   none
 else
  some (.inr (.inr (s.2.2.2.2.1,())))
def LN:=bM bv
def yG (s:ki):Option (Bool×List ah×Unit):=
 match LN (s.1,s.2.1,(i64.wrap (s.1+1)),0,s.2.2.1,()) with
 |none=>none
 |some (.inl z0)=>
  some (z0.1,z0.2.1,())
 |some (.inr z0)=>
  some (false,z0.1,())
def Ed (s:dX):Option (dX⊕(dX⊕Unit)):=
 bif decide (s.2.1<=s.2.2.1) then
  bif decide (0<=s.1)&&decide (s.1<(List.length s.2.2.2.1:Int)) then
   let t0:=(List.getD s.2.2.2.1 (Int.toNat s.1) ([],([],())))
   bif decide (0<=s.2.1)&&decide (s.2.1<(List.length s.2.2.2.1:Int)) then
    let t1:=(List.getD s.2.2.2.1 (Int.toNat s.2.1) ([],([],())))
    match jA (t0,t1,()) with
    |none=>none
    |some aM=>
     bif (!(decide (aM.1<0))) then
      some (.inl (s.1,(i64.wrap (s.2.1+1)),s.2.2.1,s.2.2.2.1,()))
     else
      some (.inr (.inl (s.1,s.2.1,s.2.2.1,s.2.2.2.1,())))
   else none
  else none
 else
  some (.inr (.inl (s.1,s.2.1,s.2.2.1,s.2.2.2.1,())))
def L2:=bM Ed
def Ee (s:dX):Option (dX⊕(dX⊕Unit)):=
 bif decide (s.2.1<=s.2.2.1) then
  bif decide (0<=s.1)&&decide (s.1<(List.length s.2.2.2.1:Int)) then
   let t0:=(List.getD s.2.2.2.1 (Int.toNat s.1) ([],([],())))
   bif decide (0<=s.2.2.1)&&decide (s.2.2.1<(List.length s.2.2.2.1:Int)) then
    let t1:=(List.getD s.2.2.2.1 (Int.toNat s.2.2.1) ([],([],())))
    match jA (t0,t1,()) with
    |none=>none
    |some aM=>
     bif decide (aM.1<0) then
      some (.inl (s.1,s.2.1,(i64.wrap (s.2.2.1-1)),s.2.2.2.1,()))
     else
      some (.inr (.inl (s.1,s.2.1,s.2.2.1,s.2.2.2.1,())))
   else none
  else none
 else
  some (.inr (.inl (s.1,s.2.1,s.2.2.1,s.2.2.2.1,())))
def L3:=bM Ee
def Ec (s:dX):Option (dX⊕((Int×List ah×Unit)⊕Unit)):=
 match L2 (s.1,s.2.1,s.2.2.1,s.2.2.2.1,()) with
 |none=>none
 |some (.inl z0)=>
  match L3 (z0.1,z0.2.1,z0.2.2.1,z0.2.2.2.1,()) with
  |none=>none
  |some (.inl aH)=>
   bif decide (aH.2.1>aH.2.2.1) then
    some (.inr (.inl (aH.2.1,aH.2.2.2.1,())))
   else
    bif decide (0<=aH.2.2.1)&&decide (aH.2.2.1<(List.length aH.2.2.2.1:Int)) then
     let t2:=(List.getD aH.2.2.2.1 (Int.toNat aH.2.2.1) ([],([],())))
     bif decide (0<=aH.2.1)&&decide (aH.2.1<(List.length aH.2.2.2.1:Int)) then
      let t3:=(List.getD aH.2.2.2.1 (Int.toNat aH.2.1) ([],([],())))
      bif decide (0<=aH.2.1)&&decide (aH.2.1<(List.length aH.2.2.2.1:Int)) then
       let t4:=(List.set aH.2.2.2.1 (Int.toNat aH.2.1) t2)
       bif decide (0<=aH.2.2.1)&&decide (aH.2.2.1<(List.length t4:Int)) then
        let t5:=i64.wrap (aH.2.2.1-1)
        some (.inl (aH.1,(i64.wrap (aH.2.1+1)),t5,(List.set t4 (Int.toNat aH.2.2.1) t3),()))
       else none
      else none
     else none
    else none
  |some (.inr aH)=>
   none
 |some (.inr z0)=>
  none
def Eg:=bM Ec
def y9 (s:dX):Option (Int×List ah×Unit):=
 bif decide (0<=s.2.2.1)&&decide (s.2.2.1<(List.length s.2.2.2.1:Int)) then
  let t0:=(List.getD s.2.2.2.1 (Int.toNat s.2.2.1) ([],([],())))
  bif decide (0<=s.1)&&decide (s.1<(List.length s.2.2.2.1:Int)) then
   let t1:=(List.getD s.2.2.2.1 (Int.toNat s.1) ([],([],())))
   bif decide (0<=s.1)&&decide (s.1<(List.length s.2.2.2.1:Int)) then
    bif (decide (0<=s.2.2.1)&&decide (s.2.2.1<(List.length (List.set s.2.2.2.1 (Int.toNat s.1) t0):Int))) then
     let t2:=(List.set (List.set s.2.2.2.1 (Int.toNat s.1) t0) (Int.toNat s.2.2.1) t1)
     match Eg (s.1,(i64.wrap (s.1+1)),(i64.wrap (s.2.1-1)),t2,()) with
     |none=>none
     |some (.inl z3)=>
      some (z3.1,z3.2.1,())
     |some (.inr z3)=>
      none
    else none
   else none
  else none
 else none
def En (s:dX):Option (dX⊕(dX⊕Unit)):=
 bif decide (s.2.1<=s.2.2.1) then
  bif decide (0<=s.2.1)&&decide (s.2.1<(List.length s.2.2.2.1:Int)) then
   let t0:=(List.getD s.2.2.2.1 (Int.toNat s.2.1) ([],([],())))
   bif decide (0<=s.1)&&decide (s.1<(List.length s.2.2.2.1:Int)) then
    let t1:=(List.getD s.2.2.2.1 (Int.toNat s.1) ([],([],())))
    match jA (t0,t1,()) with
    |none=>none
    |some aM=>
     bif decide (aM.1<0) then
      some (.inl (s.1,(i64.wrap (s.2.1+1)),s.2.2.1,s.2.2.2.1,()))
     else
      some (.inr (.inl (s.1,s.2.1,s.2.2.1,s.2.2.2.1,())))
   else none
  else none
 else
  some (.inr (.inl (s.1,s.2.1,s.2.2.1,s.2.2.2.1,())))
def Mt:=bM En
def Eo (s:dX):Option (dX⊕(dX⊕Unit)):=
 bif decide (s.2.1<=s.2.2.1) then
  bif decide (0<=s.2.2.1)&&decide (s.2.2.1<(List.length s.2.2.2.1:Int)) then
   let t0:=(List.getD s.2.2.2.1 (Int.toNat s.2.2.1) ([],([],())))
   bif decide (0<=s.1)&&decide (s.1<(List.length s.2.2.2.1:Int)) then
    let t1:=(List.getD s.2.2.2.1 (Int.toNat s.1) ([],([],())))
    match jA (t0,t1,()) with
    |none=>none
    |some aM=>
     bif (!(decide (aM.1<0))) then
      some (.inl (s.1,s.2.1,(i64.wrap (s.2.2.1-1)),s.2.2.2.1,()))
     else
      some (.inr (.inl (s.1,s.2.1,s.2.2.1,s.2.2.2.1,())))
   else none
  else none
 else
  some (.inr (.inl (s.1,s.2.1,s.2.2.1,s.2.2.2.1,())))
def Mu:=bM Eo
def Er (s:dX):Option (dX⊕(dX⊕Unit)):=
 bif decide (s.2.1<=s.2.2.1) then
  bif decide (0<=s.2.1)&&decide (s.2.1<(List.length s.2.2.2.1:Int)) then
   let t0:=(List.getD s.2.2.2.1 (Int.toNat s.2.1) ([],([],())))
   bif decide (0<=s.1)&&decide (s.1<(List.length s.2.2.2.1:Int)) then
    let t1:=(List.getD s.2.2.2.1 (Int.toNat s.1) ([],([],())))
    match jA (t0,t1,()) with
    |none=>none
    |some aM=>
     bif decide (aM.1<0) then
      some (.inl (s.1,(i64.wrap (s.2.1+1)),s.2.2.1,s.2.2.2.1,()))
     else
      some (.inr (.inl (s.1,s.2.1,s.2.2.1,s.2.2.2.1,())))
   else none
  else none
 else
  some (.inr (.inl (s.1,s.2.1,s.2.2.1,s.2.2.2.1,())))
def Mv:=bM Er
def Es (s:dX):Option (dX⊕(dX⊕Unit)):=
 bif decide (s.2.1<=s.2.2.1) then
  bif decide (0<=s.2.2.1)&&decide (s.2.2.1<(List.length s.2.2.2.1:Int)) then
   let t0:=(List.getD s.2.2.2.1 (Int.toNat s.2.2.1) ([],([],())))
   bif decide (0<=s.1)&&decide (s.1<(List.length s.2.2.2.1:Int)) then
    let t1:=(List.getD s.2.2.2.1 (Int.toNat s.1) ([],([],())))
    match jA (t0,t1,()) with
    |none=>none
    |some aM=>
     bif (!(decide (aM.1<0))) then
      some (.inl (s.1,s.2.1,(i64.wrap (s.2.2.1-1)),s.2.2.2.1,()))
     else
      some (.inr (.inl (s.1,s.2.1,s.2.2.1,s.2.2.2.1,())))
   else none
  else none
 else
  some (.inr (.inl (s.1,s.2.1,s.2.2.1,s.2.2.2.1,())))
def Mw:=bM Es
def Ep (s:dX):Option (dX⊕(ki⊕Unit)):=
 match Mv (s.1,s.2.1,s.2.2.1,s.2.2.2.1,()) with
 |none=>none
 |some (.inl z0)=>
  match Mw (z0.1,z0.2.1,z0.2.2.1,z0.2.2.2.1,()) with
  |none=>none
  |some (.inl aH)=>
   bif decide (aH.2.1>aH.2.2.1) then
    some (.inr (.inl (aH.1,aH.2.2.1,aH.2.2.2.1,())))
   else
    bif decide (0<=aH.2.2.1)&&decide (aH.2.2.1<(List.length aH.2.2.2.1:Int)) then
     let t2:=(List.getD aH.2.2.2.1 (Int.toNat aH.2.2.1) ([],([],())))
     bif decide (0<=aH.2.1)&&decide (aH.2.1<(List.length aH.2.2.2.1:Int)) then
      let t3:=(List.getD aH.2.2.2.1 (Int.toNat aH.2.1) ([],([],())))
      bif decide (0<=aH.2.1)&&decide (aH.2.1<(List.length aH.2.2.2.1:Int)) then
       let t4:=(List.set aH.2.2.2.1 (Int.toNat aH.2.1) t2)
       bif decide (0<=aH.2.2.1)&&decide (aH.2.2.1<(List.length t4:Int)) then
        let t5:=i64.wrap (aH.2.2.1-1)
        some (.inl (aH.1,(i64.wrap (aH.2.1+1)),t5,(List.set t4 (Int.toNat aH.2.2.1) t3),()))
       else none
      else none
     else none
    else none
  |some (.inr aH)=>
   none
 |some (.inr z0)=>
  none
def Et:=bM Ep
def zc (s:dX):Option (Int×Bool×List ah×Unit):=
 bif decide (0<=s.2.2.1)&&decide (s.2.2.1<(List.length s.2.2.2.1:Int)) then
  let t0:=(List.getD s.2.2.2.1 (Int.toNat s.2.2.1) ([],([],())))
  bif decide (0<=s.1)&&decide (s.1<(List.length s.2.2.2.1:Int)) then
   let t1:=(List.getD s.2.2.2.1 (Int.toNat s.1) ([],([],())))
   bif decide (0<=s.1)&&decide (s.1<(List.length s.2.2.2.1:Int)) then
    bif (decide (0<=s.2.2.1)&&decide (s.2.2.1<(List.length (List.set s.2.2.2.1 (Int.toNat s.1) t0):Int))) then
     let t2:=(List.set (List.set s.2.2.2.1 (Int.toNat s.1) t0) (Int.toNat s.2.2.1) t1)
     match Mt (s.1,(i64.wrap (s.1+1)),(i64.wrap (s.2.1-1)),t2,()) with
     |none=>none
     |some (.inl z3)=>
      match Mu (z3.1,z3.2.1,z3.2.2.1,z3.2.2.2.1,()) with
      |none=>none
      |some (.inl z4)=>
       bif decide (z4.2.1>z4.2.2.1) then
        bif decide (0<=z4.1)&&decide (z4.1<(List.length z4.2.2.2.1:Int)) then
         let t5:=(List.getD z4.2.2.2.1 (Int.toNat z4.1) ([],([],())))
         bif decide (0<=z4.2.2.1)&&decide (z4.2.2.1<(List.length z4.2.2.2.1:Int)) then
          let t6:=(List.getD z4.2.2.2.1 (Int.toNat z4.2.2.1) ([],([],())))
          bif decide (0<=z4.2.2.1)&&decide (z4.2.2.1<(List.length z4.2.2.2.1:Int)) then
           let t7:=(List.set z4.2.2.2.1 (Int.toNat z4.2.2.1) t5)
           bif decide (0<=z4.1)&&decide (z4.1<(List.length t7:Int)) then
            some (z4.2.2.1,true,(List.set t7 (Int.toNat z4.1) t6),())
           else none
          else none
         else none
        else none
       else
        bif decide (0<=z4.2.2.1)&&decide (z4.2.2.1<(List.length z4.2.2.2.1:Int)) then
         let t5:=(List.getD z4.2.2.2.1 (Int.toNat z4.2.2.1) ([],([],())))
         bif decide (0<=z4.2.1)&&decide (z4.2.1<(List.length z4.2.2.2.1:Int)) then
          let t6:=(List.getD z4.2.2.2.1 (Int.toNat z4.2.1) ([],([],())))
          bif decide (0<=z4.2.1)&&decide (z4.2.1<(List.length z4.2.2.2.1:Int)) then
           let t7:=(List.set z4.2.2.2.1 (Int.toNat z4.2.1) t5)
           bif decide (0<=z4.2.2.1)&&decide (z4.2.2.1<(List.length t7:Int)) then
            let t8:=i64.wrap (z4.2.2.1-1)
            match Et (z4.1,(i64.wrap (z4.2.1+1)),t8,(List.set t7 (Int.toNat z4.2.2.1) t6),()) with
            |none=>none
            |some (.inl z9)=>
             bif decide (0<=z9.1)&&decide (z9.1<(List.length z9.2.2.1:Int)) then
              let t10:=(List.getD z9.2.2.1 (Int.toNat z9.1) ([],([],())))
              bif decide (0<=z9.2.1)&&decide (z9.2.1<(List.length z9.2.2.1:Int)) then
               let t11:=(List.getD z9.2.2.1 (Int.toNat z9.2.1) ([],([],())))
               bif decide (0<=z9.2.1)&&decide (z9.2.1<(List.length z9.2.2.1:Int)) then
                let t12:=(List.set z9.2.2.1 (Int.toNat z9.2.1) t10)
                bif decide (0<=z9.1)&&decide (z9.1<(List.length t12:Int)) then
                 some (z9.2.1,false,(List.set t12 (Int.toNat z9.1) t11),())
                else none
               else none
              else none
             else none
            |some (.inr z9)=>
             none
           else none
          else none
         else none
        else none
      |some (.inr z4)=>
       none
     |some (.inr z3)=>
      none
    else none
   else none
  else none
 else none
def Fv (s:Int×Unit):Option (Int×Unit):=
 match pi ((IntKind.u64.wrap s.1),()) with
 |none=>none
 |some aj=>
  bif decide (aj.1<0) then
   none
  else
   let t1:=(IntKind.u64.wrap (1*2^(min (Int.toNat aj.1) IntKind.u64.bits)))
   some (t1,())
def OK (s:Int×Unit):Option jJ:=
 let t0:=(IntKind.u64.wrap (s.1*2^(min (Int.toNat 13) IntKind.u64.bits)))
 let t1:=(IntKind.u64.wrap ((BitVec.ofInt IntKind.u64.bits s.1 ^^^ BitVec.ofInt IntKind.u64.bits t0).toNat:Int))
 let t2:Int:=(Int.fdiv t1 (2^(min (Int.toNat 7) IntKind.u64.bits)))
 let t3:=(IntKind.u64.wrap ((BitVec.ofInt IntKind.u64.bits t1 ^^^ BitVec.ofInt IntKind.u64.bits t2).toNat:Int))
 let t4:=(IntKind.u64.wrap (t3*2^(min (Int.toNat 17) IntKind.u64.bits)))
 let t5:=(IntKind.u64.wrap ((BitVec.ofInt IntKind.u64.bits t3 ^^^ BitVec.ofInt IntKind.u64.bits t4).toNat:Int))
 some (t5,t5,())
def Eb (s:Int×Int×Int×Int×Int×List ah×Int×Unit):Option (HD⊕((List ah×Unit)⊕Unit)):=
 bif (decide (0<=(i64.wrap (s.1+s.2.2.2.2.1)))&&decide (((i64.wrap (s.1+s.2.2.2.2.1)):Int)<(List.length s.2.2.2.2.2.1:Int))) then
  let t0:=(List.getD s.2.2.2.2.2.1 (Int.toNat (i64.wrap (s.1+s.2.2.2.2.1))) ([],([],())))
  bif decide (0<=s.2.2.2.1)&&decide (s.2.2.2.1<(List.length s.2.2.2.2.2.1:Int)) then
   let t1:=(List.getD s.2.2.2.2.2.1 (Int.toNat s.2.2.2.1) ([],([],())))
   bif decide (0<=s.2.2.2.1)&&decide (s.2.2.2.1<(List.length s.2.2.2.2.2.1:Int)) then
    let t2:=(List.set s.2.2.2.2.2.1 (Int.toNat s.2.2.2.1) t0)
    bif (decide (0<=(i64.wrap (s.1+s.2.2.2.2.1)))&&decide (((i64.wrap (s.1+s.2.2.2.2.1)):Int)<(List.length t2:Int))) then
     let t3:=(List.set t2 (Int.toNat (i64.wrap (s.1+s.2.2.2.2.1))) t1)
     let t4:=i64.wrap (s.2.2.2.1+1)
     some (.inl (s.1,s.2.1,s.2.2.1,t4,t3,s.2.2.2.2.2.2.1,()))
    else none
   else none
  else none
 else none
def y0 (s:HD):Option (HD⊕((List ah×Unit)⊕Unit)):=
 let t0:=i64.wrap (Int.tdiv s.2.1 4)
 let t1:=(i64.wrap (s.1+(i64.wrap (t0*2))))
 let t2:=(decide (s.2.2.2.1<=(i64.wrap (t1+1))))
 bif t2 then
  match OK (s.2.2.2.2.2.1,()) with
  |none=>none
  |some bF=>
   let t4:=(IntKind.u64.wrap ((BitVec.ofInt IntKind.u64.bits bF.1 &&& BitVec.ofInt IntKind.u64.bits (IntKind.u64.wrap (s.2.2.1-1))).toNat:Int))
   let t5:=(decide (((i64.wrap t4):Int)>=s.2.1))
   bif t5 then
    let t6:=i64.wrap ((i64.wrap t4)-s.2.1)
    Eb (s.1,s.2.1,s.2.2.1,s.2.2.2.1,t6,s.2.2.2.2.1,bF.2.1,())
   else
    Eb (s.1,s.2.1,s.2.2.1,s.2.2.2.1,(i64.wrap t4),s.2.2.2.2.1,bF.2.1,())
 else
  some (.inr (.inl (s.2.2.2.2.1,())))
def Mn:=bM y0
def d9 (s:ki):Option (List ah×Unit):=
 let t0:=(decide (((i64.wrap (s.2.1-s.1)):Int)>=8))
 bif t0 then
  let t1:=(IntKind.u64.wrap (i64.wrap (s.2.1-s.1)))
  match Fv ((i64.wrap (s.2.1-s.1)),()) with
  |none=>none
  |some aM=>
   let t3:=(i64.wrap (Int.tdiv (i64.wrap (s.2.1-s.1)) 4))
   let t4:=(i64.wrap (s.1+(i64.wrap (t3*2))))
   match Mn (s.1,(i64.wrap (s.2.1-s.1)),aM.1,(i64.wrap (t4-1)),s.2.2.1,t1,()) with
   |none=>none
   |some (.inl z5)=>
    some (z5.1,())
   |some (.inr z5)=>
    none
 else
  some (s.2.2.1,())
def lF (bT:dX->Option (List ah×Unit)) (s:QA):Option (QD⊕(List ah×Unit)):=
 bif s.2.2.2.2.2.2.2.1 then
  match yG (s.1,s.2.1,s.2.2.2.2.2.2.2.2.1,()) with
  |none=>none
  |some aj=>
   bif aj.1 then
    some (.inr (aj.2.1,()))
   else
    some (.inl (s.1,s.2.1,s.2.2.1,s.2.2.2.1,s.2.2.2.2.1,s.2.2.2.2.2.1,s.2.2.2.2.2.2.1,aj.2.1,()))
 else
  some (.inl (s.1,s.2.1,s.2.2.1,s.2.2.2.1,s.2.2.2.2.1,s.2.2.2.2.2.1,s.2.2.2.2.2.2.1,s.2.2.2.2.2.2.2.2.1,()))
def nJ (bT:dX->Option (List ah×Unit)) (s:QA):Option (uw⊕oI):=
 bif s.2.2.2.2.2.2.2.1 then
  match y9 (s.1,s.2.1,s.2.2.2.2.2.2.1,s.2.2.2.2.2.2.2.2.1,()) with
  |none=>none
  |some aj=>
   some (.inr (aj.1,s.2.1,s.2.2.1,s.2.2.2.1,s.2.2.2.2.1,aj.2.1,()))
 else
  some (.inl (s.1,s.2.1,s.2.2.1,s.2.2.2.2.2.1,s.2.2.2.2.2.2.1,s.2.2.2.2.2.2.2.2.1,()))
def oM (bT:dX->Option (List ah×Unit)) (s:uw):Option (oI⊕Unit):=
 match zc (s.1,s.2.1,s.2.2.2.2.1,s.2.2.2.2.2.1,()) with
 |none=>none
 |some aj=>
  let t1:=i64.wrap (Int.tdiv s.2.2.2.1 8)
  let t2:=(decide (((i64.wrap (aj.1-s.1)):Int)<(i64.wrap (s.2.1-aj.1))))
  bif t2 then
   let t3:=(decide (((i64.wrap (aj.1-s.1)):Int)>=t1))
   match bT (s.1,aj.1,s.2.2.1,aj.2.2.1,()) with
   |none=>none
   |some cT=>
    some (.inl ((i64.wrap (aj.1+1)),s.2.1,s.2.2.1,t3,aj.2.1,cT.1,()))
  else
   let t3:=(decide (((i64.wrap (s.2.1-aj.1)):Int)>=t1))
   match bT ((i64.wrap (aj.1+1)),s.2.1,s.2.2.1,aj.2.2.1,()) with
   |none=>none
   |some cT=>
    some (.inl (s.1,aj.1,s.2.2.1,t3,aj.2.1,cT.1,()))
def km (bT:dX->Option (List ah×Unit)) (s:QD):Option (oI⊕oI):=
 bif decide (s.1>0) then
  bif (decide (0<=(i64.wrap (s.1-1)))&&decide (((i64.wrap (s.1-1)):Int)<(List.length s.2.2.2.2.2.2.2.1:Int))) then
   let t0:=(List.getD s.2.2.2.2.2.2.2.1 (Int.toNat (i64.wrap (s.1-1))) ([],([],())))
   bif decide (0<=s.2.2.2.2.2.2.1)&&decide (s.2.2.2.2.2.2.1<(List.length s.2.2.2.2.2.2.2.1:Int)) then
    let t1:=(List.getD s.2.2.2.2.2.2.2.1 (Int.toNat s.2.2.2.2.2.2.1) ([],([],())))
    match jA (t0,t1,()) with
    |none=>none
    |some aM=>
     match nJ bT (s.1,s.2.1,s.2.2.1,s.2.2.2.1,s.2.2.2.2.1,s.2.2.2.2.2.1,s.2.2.2.2.2.2.1,(!(decide (aM.1<0))),s.2.2.2.2.2.2.2.1,()) with
     |none=>none
     |some (.inl z3)=>
      match oM bT (z3.1,z3.2.1,z3.2.2.1,z3.2.2.2.1,z3.2.2.2.2.1,z3.2.2.2.2.2.1,()) with
      |none=>none
      |some (.inl z4)=>
       some (.inl (z4.1,z4.2.1,z4.2.2.1,z4.2.2.2.1,z4.2.2.2.2.1,z4.2.2.2.2.2.1,()))
      |some (.inr z4)=>
       none
     |some (.inr z3)=>
      some (.inr (z3.1,z3.2.1,z3.2.2.1,z3.2.2.2.1,z3.2.2.2.2.1,z3.2.2.2.2.2.1,()))
   else none
  else none
 else
  match nJ bT (s.1,s.2.1,s.2.2.1,s.2.2.2.1,s.2.2.2.2.1,s.2.2.2.2.2.1,s.2.2.2.2.2.2.1,false,s.2.2.2.2.2.2.2.1,()) with
  |none=>none
  |some (.inl z0)=>
   match oM bT (z0.1,z0.2.1,z0.2.2.1,z0.2.2.2.1,z0.2.2.2.2.1,z0.2.2.2.2.2.1,()) with
   |none=>none
   |some (.inl aH)=>
    some (.inl (aH.1,aH.2.1,aH.2.2.1,aH.2.2.2.1,aH.2.2.2.2.1,aH.2.2.2.2.2.1,()))
   |some (.inr aH)=>
    none
  |some (.inr z0)=>
   some (.inr (z0.1,z0.2.1,z0.2.2.1,z0.2.2.2.1,z0.2.2.2.2.1,z0.2.2.2.2.2.1,()))
def Em (bT:dX->Option (List ah×Unit)) (s:Int×Int×Int×Bool×Bool×Int×Int×Int×List ah×Unit):Option (oI⊕((List ah×Unit)⊕Unit)):=
 bif s.2.2.2.1 then
  bif s.2.2.2.2.1 then
   let t0:=decide (s.2.2.2.2.2.2.2.1=1)
   match lF bT (s.1,s.2.1,s.2.2.1,s.2.2.2.1,s.2.2.2.2.1,s.2.2.2.2.2.1,s.2.2.2.2.2.2.1,t0,s.2.2.2.2.2.2.2.2.1,()) with
   |none=>none
   |some (.inl aH)=>
    match km bT (aH.1,aH.2.1,aH.2.2.1,aH.2.2.2.1,aH.2.2.2.2.1,aH.2.2.2.2.2.1,aH.2.2.2.2.2.2.1,aH.2.2.2.2.2.2.2.1,()) with
    |none=>none
    |some (.inl z2)=>
     some (.inl (z2.1,z2.2.1,z2.2.2.1,z2.2.2.2.1,z2.2.2.2.2.1,z2.2.2.2.2.2.1,()))
    |some (.inr z2)=>
     some (.inl (z2.1,z2.2.1,z2.2.2.1,z2.2.2.2.1,z2.2.2.2.2.1,z2.2.2.2.2.2.1,()))
   |some (.inr aH)=>
    some (.inr (.inl (aH.1,())))
  else
   match lF bT (s.1,s.2.1,s.2.2.1,s.2.2.2.1,s.2.2.2.2.1,s.2.2.2.2.2.1,s.2.2.2.2.2.2.1,false,s.2.2.2.2.2.2.2.2.1,()) with
   |none=>none
   |some (.inl z0)=>
    match km bT (z0.1,z0.2.1,z0.2.2.1,z0.2.2.2.1,z0.2.2.2.2.1,z0.2.2.2.2.2.1,z0.2.2.2.2.2.2.1,z0.2.2.2.2.2.2.2.1,()) with
    |none=>none
    |some (.inl aH)=>
     some (.inl (aH.1,aH.2.1,aH.2.2.1,aH.2.2.2.1,aH.2.2.2.2.1,aH.2.2.2.2.2.1,()))
    |some (.inr aH)=>
     some (.inl (aH.1,aH.2.1,aH.2.2.1,aH.2.2.2.1,aH.2.2.2.2.1,aH.2.2.2.2.2.1,()))
   |some (.inr z0)=>
    some (.inr (.inl (z0.1,())))
 else
  match lF bT (s.1,s.2.1,s.2.2.1,s.2.2.2.1,s.2.2.2.2.1,s.2.2.2.2.2.1,s.2.2.2.2.2.2.1,false,s.2.2.2.2.2.2.2.2.1,()) with
  |none=>none
  |some (.inl z0)=>
   match km bT (z0.1,z0.2.1,z0.2.2.1,z0.2.2.2.1,z0.2.2.2.2.1,z0.2.2.2.2.2.1,z0.2.2.2.2.2.2.1,z0.2.2.2.2.2.2.2.1,()) with
   |none=>none
   |some (.inl aH)=>
    some (.inl (aH.1,aH.2.1,aH.2.2.1,aH.2.2.2.1,aH.2.2.2.2.1,aH.2.2.2.2.2.1,()))
   |some (.inr aH)=>
    some (.inl (aH.1,aH.2.1,aH.2.2.1,aH.2.2.2.1,aH.2.2.2.2.1,aH.2.2.2.2.2.1,()))
  |some (.inr z0)=>
   some (.inr (.inl (z0.1,())))
def El (bT:dX->Option (List ah×Unit)) (s:Int×Int×Int×Bool×Bool×Int×List ah×Unit):Option (oI⊕((List ah×Unit)⊕Unit)):=
 match EI (s.1,s.2.1,s.2.2.2.2.2.2.1,()) with
 |none=>none
 |some aj=>
  bif decide (aj.2.1=2) then
   match yX (s.1,s.2.1,aj.2.2.1,()) with
   |none=>none
   |some ar=>
    let t2:=(i64.wrap ((i64.wrap (s.2.1-1))-(i64.wrap (aj.1-s.1))))
    Em bT (s.1,s.2.1,s.2.2.1,s.2.2.2.1,s.2.2.2.2.1,s.2.2.2.2.2.1,t2,1,ar.1,())
  else
   Em bT (s.1,s.2.1,s.2.2.1,s.2.2.2.1,s.2.2.2.2.1,s.2.2.2.2.2.1,aj.1,aj.2.1,aj.2.2.1,())
def vk (bT:dX->Option (List ah×Unit)) (s:oI):Option (oI⊕((List ah×Unit)⊕Unit)):=
 let t0:=(decide (((i64.wrap (s.2.1-s.1)):Int)<=12))
 bif t0 then
  match Ek (s.1,s.2.1,s.2.2.2.2.2.1,()) with
  |none=>none
  |some ar=>
   some (.inr (.inl (ar.1,())))
 else
  bif decide (s.2.2.1=0) then
   match EL (s.1,s.2.1,s.2.2.2.2.2.1,()) with
   |none=>none
   |some ar=>
    some (.inr (.inl (ar.1,())))
  else
   bif !s.2.2.2.1 then
    match d9 (s.1,s.2.1,s.2.2.2.2.2.1,()) with
    |none=>none
    |some ar=>
     El bT (s.1,s.2.1,(i64.wrap (s.2.2.1-1)),s.2.2.2.1,s.2.2.2.2.1,(i64.wrap (s.2.1-s.1)),ar.1,())
   else
    El bT (s.1,s.2.1,s.2.2.1,s.2.2.2.1,s.2.2.2.2.1,(i64.wrap (s.2.1-s.1)),s.2.2.2.2.2.1,())
def EG (bT:dX->Option (List ah×Unit)) (s:oI):Option ((List ah×Unit)⊕Unit):=bM (vk bT) s
def yW (bT:dX->Option (List ah×Unit)) (s:dX):Option (List ah×Unit):=
 match EG bT (s.1,s.2.1,s.2.2.1,true,true,s.2.2.2.1,()) with
 |none=>none
 |some (.inl z0)=>
  some (z0.1,())
 |some (.inr z0)=>
  none
def Eu:Nat->dX->Option (List ah×Unit)
 |0,_=>none
 |n+1,s=>yW (Eu n) s
def Oe (s:dX):Option (List ah×Unit):=Eu jV s
def EF (s:List ah×Unit):Option (List ah×Unit):=
 let t0:=(IntKind.u64.wrap ((List.length s.1):Int))
 match pi (t0,()) with
 |none=>none
 |some ar=>
  match Oe (0,((List.length s.1):Int),ar.1,s.1,()) with
  |none=>none
  |some aM=>
   some (aM.1,())
def PA (s:Int×Int×Int×List ah×ah×List ah×Unit):Option (Cn⊕((List ah×Unit)⊕Unit)):=
 bif (decide (0<=(i64.wrap (s.1-1)))&&decide (((i64.wrap (s.1-1)):Int)<(List.length s.2.2.2.1:Int))) then
  let t0:=(List.getD s.2.2.2.1 (Int.toNat (i64.wrap (s.1-1))) ([],([],())))
  match wh (t0.2.1,s.2.2.2.2.1.2.1,()) with
  |none=>none
  |some ar=>
   bif decide (ar.1<0) then
    bif (decide (0<=(i64.wrap (s.1-1)))&&decide (((i64.wrap (s.1-1)):Int)<(List.length s.2.2.2.1:Int))) then
     let t2:=(List.set s.2.2.2.1 (Int.toNat (i64.wrap (s.1-1))) ((List.getD s.2.2.2.1 (Int.toNat (i64.wrap (s.1-1))) ([],([],()))).1,(s.2.2.2.2.1.2.1,(List.getD s.2.2.2.1 (Int.toNat (i64.wrap (s.1-1))) ([],([],()))).2.2)))
     some (.inl (s.2.1,(i64.wrap (s.2.2.1+1)),t2,s.2.2.2.2.2.1,()))
    else none
   else
    some (.inl (s.2.1,(i64.wrap (s.2.2.1+1)),s.2.2.2.1,s.2.2.2.2.2.1,()))
 else none
def tc (s:Int×Int×Int×Bool×List ah×ah×List ah×Unit):Option (Cn⊕((List ah×Unit)⊕Unit)):=
 bif s.2.2.2.1 then
  bif (decide ((List.length s.2.2.2.2.1+List.length ([s.2.2.2.2.2.1]:List ah))*32<=bm)) then
   let t0:List ah:=(s.2.2.2.2.1++([s.2.2.2.2.2.1]:List ah))
   some (.inl (s.2.1,(i64.wrap (s.2.2.1+1)),t0,s.2.2.2.2.2.2.1,()))
  else none
 else
  PA (s.1,s.2.1,s.2.2.1,s.2.2.2.2.1,s.2.2.2.2.2.1,s.2.2.2.2.2.2.1,())
def q5 (s:Cn):Option (Cn⊕((List ah×Unit)⊕Unit)):=
 bif decide (s.2.1<s.1) then
  bif decide (0<=s.2.1)&&decide (s.2.1<(List.length s.2.2.2.1:Int)) then
   let t0:=(List.getD s.2.2.2.1 (Int.toNat s.2.1) ([],([],())))
   let t1:=(decide ((((List.length s.2.2.1):Int):Int)=0))
   bif !t1 then
    let t2:=(i64.wrap (((List.length s.2.2.1):Int)-1))
    bif decide (0<=t2)&&decide (t2<(List.length s.2.2.1:Int)) then
     let t3:=(List.getD s.2.2.1 (Int.toNat t2) ([],([],())))
     let t4:=(!decide ((t3.2.1:af)=[]))
     bif t4 then
      let t5:=(i64.wrap (((List.length s.2.2.1):Int)-1))
      bif decide (0<=t5)&&decide (t5<(List.length s.2.2.1:Int)) then
       let t6:=(List.getD s.2.2.1 (Int.toNat t5) ([],([],())))
       tc (((List.length s.2.2.1):Int),s.1,s.2.1,(Op.bytesLess t6.2.1 t0.1),s.2.2.1,t0,s.2.2.2.1,())
      else none
     else
      tc (((List.length s.2.2.1):Int),s.1,s.2.1,false,s.2.2.1,t0,s.2.2.2.1,())
    else none
   else
    tc (((List.length s.2.2.1):Int),s.1,s.2.1,true,s.2.2.1,t0,s.2.2.2.1,())
  else none
 else
  some (.inr (.inl (s.2.2.1,())))
def Jq:=bM q5
def tM (s:List ah×Unit):Option (List ah×Unit):=
 match EM (s.1,()) with
 |none=>none
 |some aj=>
  match yV (aj.1,()) with
  |none=>none
  |some ar=>
   match EF (ar.1,()) with
   |none=>none
   |some aM=>
    match Jq (((List.length aM.1):Int),0,[],aM.1,()) with
    |none=>none
    |some (.inl z3)=>
     some (z3.1,())
    |some (.inr z3)=>
     none
def q6 (s:Qp):Option (Qp⊕((List ah×Unit)⊕(af×List ah×Unit))):=
 bif decide (s.2.2.2.1<s.2.2.1) then
  bif decide (0<=s.2.2.2.1)&&decide (s.2.2.2.1<(List.length s.2.1:Int)) then
   let t0:=(List.getD s.2.1 (Int.toNat s.2.2.2.1) ([],([],())))
   let t1:=(!decide ((t0.1:af)=[]))
   bif t1 then
    bif (decide ((List.length s.2.2.2.2.1+List.length ([(s.1,(t0.1,()))]:List ah))*32<=bm)) then
     let t2:List ah:=(s.2.2.2.2.1++([(s.1,(t0.1,()))]:List ah))
     let t3:=decide ((t0.2.1:af)=[])
     bif t3 then
      some (.inr (.inl (t2,())))
     else
      let t4:=i64.wrap (s.2.2.2.1+1)
      some (.inl (t0.2.1,s.2.1,s.2.2.1,t4,t2,()))
    else none
   else
    let t2:=decide ((t0.2.1:af)=[])
    bif t2 then
     some (.inr (.inl (s.2.2.2.2.1,())))
    else
     let t3:=i64.wrap (s.2.2.2.1+1)
     some (.inl (t0.2.1,s.2.1,s.2.2.1,t3,s.2.2.2.2.1,()))
  else none
 else
  some (.inr (.inr (s.1,s.2.2.2.2.1,())))
def Js:=bM q6
def xQ (s:List ah×Unit):Option (List ah×Unit):=
 match Js ([],s.1,((List.length s.1):Int),0,[],()) with
 |none=>none
 |some (.inl z0)=>
  some (z0.1,())
 |some (.inr z0)=>
  bif (decide ((List.length z0.2.1+List.length ([(z0.1,([],()))]:List ah))*32<=bm)) then
   let t1:List ah:=(z0.2.1++([(z0.1,([],()))]:List ah))
   some (t1,())
  else none
def A3 (s:Qt):Option (Qt⊕(Hq⊕Unit)):=
 let t0:=decide (s.2.2.2.2.2.1<s.2.2.2.2.1)
 bif t0 then
  bif decide (0<=s.2.2.2.2.2.1)&&decide (s.2.2.2.2.2.1<(List.length s.2.2.2.1:Int)) then
   let t1:=(List.getD s.2.2.2.1 (Int.toNat s.2.2.2.2.2.1) ([],([],())))
   match rJ (s.2.2.2.2.2.2.2.1,t1,()) with
   |none=>none
   |some aM=>
    bif (decide ((List.length s.2.2.2.2.2.2.1+List.length ([aM.1]:List ah))*32<=bm)) then
     let t3:List ah:=(s.2.2.2.2.2.2.1++([aM.1]:List ah))
     let t4:=i64.wrap (s.2.2.2.2.2.1+1)
     some (.inl (s.1,s.2.1,s.2.2.1,s.2.2.2.1,s.2.2.2.2.1,t4,t3,s.2.2.2.2.2.2.2.1,s.2.2.2.2.2.2.2.2.1,()))
    else none
  else none
 else
  some (.inr (.inl (s.1,s.2.1,s.2.2.1,s.2.2.2.2.2.2.1,s.2.2.2.2.2.2.2.2.1,())))
def Iq:=bM A3
def AY (s:Hq):Option (Hq⊕((List ah×Unit)⊕Unit)):=
 bif decide (s.2.2.1<s.2.1) then
  bif decide (0<=s.2.2.1)&&decide (s.2.2.1<(List.length s.2.2.2.2.1:Int)) then
   let t0:=(List.getD s.2.2.2.2.1 (Int.toNat s.2.2.1) ([],([],())))
   match Iq (s.1,s.2.1,s.2.2.1,s.1,((List.length s.1):Int),0,s.2.2.2.1,t0,s.2.2.2.2.1,()) with
   |none=>none
   |some (.inl aH)=>
    let t2:=i64.wrap (aH.2.2.1+1)
    some (.inl (aH.1,aH.2.1,t2,aH.2.2.2.1,aH.2.2.2.2.1,()))
   |some (.inr aH)=>
    none
  else none
 else
  some (.inr (.inl (s.2.2.2.1,())))
def Ip:=bM AY
def CT (s:Hw):Option (List ah×Unit):=
 match tM (s.2.1,()) with
 |none=>none
 |some aj=>
  match xQ (aj.1,()) with
  |none=>none
  |some ar=>
   match Ip (s.1,((List.length ar.1):Int),0,[],ar.1,()) with
   |none=>none
   |some (.inl z2)=>
    match tM (z2.1,()) with
    |none=>none
    |some bF=>
     some (bF.1,())
   |some (.inr z2)=>
    none
def pu (s:Hw):Option Hw:=
 match CT (s.2.1,s.1,()) with
 |none=>none
 |some aj=>
  some (s.2.1,aj.1,())
def By (s:ah×af×af×Unit):Option (ah×Unit):=
 match kN (s.2.2.1,()) with
 |none=>none
 |some aj=>
  match rq (s.1.1,s.2.1,s.2.2.1,()) with
  |none=>none
  |some ar=>
   match rq (s.1.2.1,s.2.1,s.2.2.1,()) with
   |none=>none
   |some aM=>
    bif aM.2.1 then
     some ((ar.1,(aM.1,())),())
    else
     some ((ar.1,(aj.1.2.1,())),())
def vx (s:QB):Option (QB⊕((Int×List ah×List ah×Unit)⊕Unit)):=
 bif decide (s.2.1<s.1) then
  bif decide (0<=s.2.1)&&decide (s.2.1<(List.length s.2.2.2.1:Int)) then
   let t0:=(List.getD s.2.2.2.1 (Int.toNat s.2.1) ([],([],())))
   match rJ (t0,s.2.2.2.2.2.1,()) with
   |none=>none
   |some ar=>
    match j0 (ar.1,()) with
    |none=>none
    |some aM=>
     bif !aM.1 then
      match By (ar.1,s.2.2.2.2.1.2.2.2.2.2.1,s.2.2.2.2.1.2.2.2.2.1,()) with
      |none=>none
      |some bF=>
       bif (decide ((List.length s.2.2.2.2.2.2.1+List.length ([bF.1]:List ah))*32<=bm)) then
        let t4:List ah:=(s.2.2.2.2.2.2.1++([bF.1]:List ah))
        some (.inl (s.1,(i64.wrap (s.2.1+1)),s.2.2.1,s.2.2.2.1,s.2.2.2.2.1,s.2.2.2.2.2.1,t4,()))
       else none
     else
      some (.inl (s.1,(i64.wrap (s.2.1+1)),s.2.2.1,s.2.2.2.1,s.2.2.2.2.1,s.2.2.2.2.2.1,s.2.2.2.2.2.2.1,()))
  else none
 else
  some (.inr (.inl (s.2.2.1,s.2.2.2.1,s.2.2.2.2.2.2.1,())))
def OD:=bM vx
def Ai (s:Int×List ah×a6×ah×List ah×Unit):Option (Bool×Int×List ah×Unit):=
 match pu (s.2.2.2.2.1,s.2.1,()) with
 |none=>none
 |some aj=>
  match OD (((List.length aj.1):Int),0,s.1,aj.1,s.2.2.1,s.2.2.2.1,aj.2.1,()) with
  |none=>none
  |some (.inl aH)=>
   match tM (aH.2.2.1,()) with
   |none=>none
   |some aM=>
    bif decide (aH.1= -1) then
     some (true,0,aM.1,())
    else none
  |some (.inr aH)=>
   none
def Ah (s:Bool×Int×List ah×a6×Unit):Option (Bool×Int×List ah×Unit):=
 bif s.1 then
  match kN (s.2.2.2.1.2.2.2.2.2.1,()) with
  |none=>none
  |some aj=>
   let t1:=decide (s.2.2.2.1.1=4)
   bif t1 then
    match kN (s.2.2.2.1.2.2.2.2.1,()) with
    |none=>none
    |some aM=>
     bif (decide ((List.length ([aj.1]:List ah)+List.length ([aM.1]:List ah))*32<=bm)) then
      let t3:List ah:=(([aj.1]:List ah)++([aM.1]:List ah))
      Ai (s.2.1,s.2.2.1,s.2.2.2.1,aj.1,t3,())
     else none
   else
    Ai (s.2.1,s.2.2.1,s.2.2.2.1,aj.1,([aj.1]:List ah),())
 else
  bif decide (s.2.1= -1) then
   some (true,0,s.2.2.1,())
  else none
def qw (s:Int×Bool×Int×List ah×a6×Unit):Option (Bool×Int×List ah×Unit):=
 bif s.2.1 then
  match oo (s.2.2.2.2.1.2.1,()) with
  |none=>none
  |some aj=>
   match pu (([aj.1]:List ah),s.2.2.2.1,()) with
   |none=>none
   |some ar=>
    bif decide (s.2.2.1= -1) then
     some (true,0,ar.2.1,())
    else none
 else
  bif decide (s.1=3) then
   match pu (([s.2.2.2.2.1.2.2.2.1]:List ah),s.2.2.2.1,()) with
   |none=>none
   |some aj=>
    bif decide (s.2.2.1= -1) then
     some (true,0,aj.2.1,())
    else none
  else
   bif decide (s.1=4) then
    Ah (true,s.2.2.1,s.2.2.2.1,s.2.2.2.2.1,())
   else
    Ah ((decide (s.1=5)),s.2.2.1,s.2.2.2.1,s.2.2.2.2.1,())
def dl (s:Int×a6×Int×List ah×Unit):Option (Bool×Int×List ah×Unit):=
 bif decide (s.2.2.1=0) then
  bif decide (s.2.2.1=0) then
   bif decide (s.2.1.1=1) then
    qw (s.2.1.1,true,(-1:Int),s.2.2.2.1,s.2.1,())
   else
    qw (s.2.1.1,(decide (s.2.1.1=2)),(-1:Int),s.2.2.2.1,s.2.1,())
  else none
 else none
def yJ (s:Int×Int×List a6×List ah×Unit):Option ((Int×Int×List a6×List ah×Unit)⊕(Cj⊕Cj)):=
 bif decide (s.1>=0) then
  bif decide (0<=s.1)&&decide (s.1<(List.length s.2.2.1:Int)) then
   let t0:=(List.getD s.2.2.1 (Int.toNat s.1) (0,([],([],(([],([],())),([],([],(0,()))))))))
   match dl (s.1,t0,s.2.1,s.2.2.2.1,()) with
   |none=>none
   |some ar=>
    bif !ar.1 then
     some (.inr (.inl (ar.2.1,s.2.2.1,ar.2.2.1,())))
    else
     some (.inl ((i64.wrap (s.1-1)),ar.2.1,s.2.2.1,ar.2.2.1,()))
  else none
 else
  some (.inr (.inr (s.2.1,s.2.2.1,s.2.2.2.1,())))
def LY:=bM yJ
def Mk (s:Cj):Option Cj:=
 let t0:=(i64.wrap (((List.length s.2.1):Int)-1))
 match LY (t0,s.1,s.2.1,s.2.2.1,()) with
 |none=>none
 |some (.inl aH)=>
  some (aH.1,aH.2.1,aH.2.2.1,())
 |some (.inr aH)=>
  some (aH.1,aH.2.1,aH.2.2.1,())
def BH (s:ah×List a6×Unit):Option (List ah×Unit):=
 match tM (([s.1]:List ah),()) with
 |none=>none
 |some aj=>
  match zd (s.2.1,()) with
  |none=>none
  |some ar=>
   match Mk (0,ar.1,aj.1,()) with
   |none=>none
   |some aM=>
    bif decide (aM.1=0) then
     some (aM.2.2.1,())
    else
     bif decide (aM.1=1) then
      some ([],())
     else none
def OM (s:r2):Option (Bool×ah×Unit):=
 match rJ (s.1,s.2.1,()) with
 |none=>none
 |some aj=>
  match j0 (aj.1,()) with
  |none=>none
  |some ar=>
   some ((!ar.1),s.2.1,())
def BJ (s:List ak×List a6×Int×Int×Unit):Option ((List ak×List a6×Int×Int×Unit)⊕((List ak×Unit)⊕Unit)):=
 bif decide (s.2.2.2.1<s.2.2.1) then
  bif decide (0<=s.2.2.2.1)&&decide (s.2.2.2.1<(List.length s.2.1:Int)) then
   let t0:=(List.getD s.2.1 (Int.toNat s.2.2.2.1) (0,([],([],(([],([],())),([],([],(0,()))))))))
   match pK (s.1,t0,()) with
   |none=>none
   |some ar=>
    let t2:=i64.wrap (s.2.2.2.1+1)
    some (.inl (ar.1,s.2.1,s.2.2.1,t2,()))
  else none
 else
  some (.inr (.inl (s.1,())))
def JY:=bM BJ
def uH (s:List ak×List a6×Unit):Option (List ak×Unit):=
 match JY (s.1,s.2.1,((List.length s.2.1):Int),0,()) with
 |none=>none
 |some (.inl z0)=>
  some (z0.1,())
 |some (.inr z0)=>
  none
def PC (s:ah×ak×Unit):Option (Bool×ak×Unit):=
 match pR (s.1,s.2.1.1,()) with
 |none=>none
 |some aj=>
  some (aj.1,s.2.1,())
def yN (s:List ah×Int×Int×ak×Unit):Option ((List ah×Int×Int×ak×Unit)⊕((Int×ak×Unit)⊕(ak×Unit))):=
 bif decide (s.2.2.1<s.2.1) then
  bif decide (0<=s.2.2.1)&&decide (s.2.2.1<(List.length s.1:Int)) then
   let t0:=(List.getD s.1 (Int.toNat s.2.2.1) ([],([],())))
   match PC (t0,s.2.2.2.1,()) with
   |none=>none
   |some ar=>
    bif ar.1 then
     some (.inr (.inl (s.2.2.1,ar.2.1,())))
    else
     some (.inl (s.1,s.2.1,(i64.wrap (s.2.2.1+1)),ar.2.1,()))
  else none
 else
  some (.inr (.inr (s.2.2.2.1,())))
def L0:=bM yN
def Ez (s:List ah×ak×Unit):Option (Int×ak×Unit):=
 match L0 (s.1,((List.length s.1):Int),0,s.2.1,()) with
 |none=>none
 |some (.inl z0)=>
  some (z0.1,z0.2.1,())
 |some (.inr z0)=>
  some ((-1:Int),z0.1,())
def yK (s:List ah×ak×Unit):Option (Bool×ak×Unit):=
 match Ez (s.1,s.2.1,()) with
 |none=>none
 |some aj=>
  some ((decide (aj.1>=0)),aj.2.1,())
def A8 (s:ak×List ah×Unit):Option (Bool×List ah×Unit):=
 match yK (s.2.1,s.1,()) with
 |none=>none
 |some aj=>
  some ((!aj.1),s.2.1,())
def y8 (s:Ci):Option (Ci⊕((Int×List ak×List ah×Unit)⊕uu)):=
 bif decide (s.2.1<s.1) then
  bif decide (0<=s.2.1)&&decide (s.2.1<(List.length s.2.2.1:Int)) then
   let t0:=(List.getD s.2.2.1 (Int.toNat s.2.1) ([],([],(0,()))))
   match A8 (t0,s.2.2.2.1,()) with
   |none=>none
   |some ar=>
    bif ar.1 then
     some (.inr (.inl (s.2.1,s.2.2.1,ar.2.1,())))
    else
     some (.inl (s.1,(i64.wrap (s.2.1+1)),s.2.2.1,ar.2.1,()))
  else none
 else
  some (.inr (.inr (s.2.2.1,s.2.2.2.1,())))
def Ml:=bM y8
def ce (s:uu):Option (Int×List ak×List ah×Unit):=
 match Ml (((List.length s.1):Int),0,s.1,s.2.1,()) with
 |none=>none
 |some (.inl z0)=>
  some (z0.1,z0.2.1,z0.2.2.1,())
 |some (.inr z0)=>
  some ((-1:Int),z0.1,z0.2.1,())
def va (s:Ci):Option (Ci⊕((Int×List ak×List ah×Unit)⊕Unit)):=
 let t0:=(decide (s.2.1<((List.length s.2.2.1):Int)))
 bif t0 then
  bif decide (0<=s.2.1)&&decide (s.2.1<(List.length s.2.2.1:Int)) then
   let t1:=(List.getD s.2.2.1 (Int.toNat s.2.1) ([],([],(0,()))))
   match A8 (t1,s.2.2.2.1,()) with
   |none=>none
   |some aM=>
    bif !aM.1 then
     bif decide (0<=s.1)&&decide (s.1<(List.length s.2.2.1:Int)) then
      some (.inl ((i64.wrap (s.1+1)),(i64.wrap (s.2.1+1)),(List.set s.2.2.1 (Int.toNat s.1) t1),aM.2.1,()))
     else none
    else
     some (.inl (s.1,(i64.wrap (s.2.1+1)),s.2.2.1,aM.2.1,()))
  else none
 else
  some (.inr (.inl (s.1,s.2.2.1,s.2.2.2.1,())))
def Md:=bM va
def yU (s:uu):Option (List ah×List ak×Unit):=
 match ce (s.1,s.2.1,()) with
 |none=>none
 |some aj=>
  bif decide (aj.1=(-1:Int)) then
   some (aj.2.2.1,aj.2.1,())
  else
   match Md (aj.1,(i64.wrap (aj.1+1)),aj.2.1,aj.2.2.1,()) with
   |none=>none
   |some (.inl aH)=>
    bif (decide (0<=aH.1)&&decide (aH.1<=(List.length aH.2.1:Int))&&decide (((List.length aH.2.1:Int):Int)<=(List.length aH.2.1:Int))) then
     let t2:=(List.take (Int.toNat aH.1) aH.2.1++List.replicate ((Int.toNat (List.length aH.2.1:Int))-(Int.toNat aH.1)) (([]:af),(([]:af),((0:Int),())))++List.drop ((Int.toNat aH.1)+((Int.toNat (List.length aH.2.1:Int))-(Int.toNat aH.1))) aH.2.1)
     bif decide ((0:Int)<=aH.1)&&decide (aH.1<=(List.length t2:Int)) then
      some (aH.2.2.1,(List.take (Int.toNat aH.1) t2),())
     else none
    else none
   |some (.inr aH)=>
    none
def wT (s:uu):Option (List ak×Unit):=
 match sA (s.1,()) with
 |none=>none
 |some aj=>
  match yU (aj.1,s.2.1,()) with
  |none=>none
  |some ar=>
   some (ar.2.1,())
def ES (s:ak×Int×List ak×Unit):Option (Bool×Int×List ak×Unit):=
 bif decide (s.2.1=0) then
  bif decide (s.2.1=0) then
   bif (decide ((List.length s.2.2.1+List.length ([s.1]:List ak))*40<=bm)) then
    let t0:List ak:=(s.2.2.1++([s.1]:List ak))
    some (true,0,t0,())
   else none
  else none
 else none
def yO (s:Cp):Option (Cp⊕((Int×List ah×ah×Unit)⊕p6)):=
 bif decide (s.2.1<s.1) then
  bif decide (0<=s.2.1)&&decide (s.2.1<(List.length s.2.2.1:Int)) then
   let t0:=(List.getD s.2.2.1 (Int.toNat s.2.1) ([],([],())))
   match OM (t0,s.2.2.2.1,()) with
   |none=>none
   |some ar=>
    bif ar.1 then
     some (.inr (.inl (s.2.1,s.2.2.1,ar.2.1,())))
    else
     some (.inl (s.1,(i64.wrap (s.2.1+1)),s.2.2.1,ar.2.1,()))
  else none
 else
  some (.inr (.inr (s.2.2.1,s.2.2.2.1,())))
def L1:=bM yO
def EA (s:p6):Option (Int×List ah×ah×Unit):=
 match L1 (((List.length s.1):Int),0,s.1,s.2.1,()) with
 |none=>none
 |some (.inl z0)=>
  some (z0.1,z0.2.1,z0.2.2.1,())
 |some (.inr z0)=>
  some ((-1:Int),z0.1,z0.2.1,())
def yL (s:p6):Option (Bool×List ah×ah×Unit):=
 match EA (s.1,s.2.1,()) with
 |none=>none
 |some aj=>
  some ((decide (aj.1>=0)),aj.2.1,aj.2.2.1,())
def ER (cq:lE->Option (List ak×bN×Int×Unit)) (s:Qu):Option (RK⊕(kZ⊕kZ)):=
 bif s.2.2.1 then
  some (.inr (.inl (s.2.2.2.1,s.2.2.2.2.1,s.2.2.2.2.2.1,s.2.2.2.2.2.2.1,s.2.2.2.2.2.2.2.1,s.2.2.2.2.2.2.2.2.1,s.2.2.2.2.2.2.2.2.2.2.1,())))
 else
  some (.inl (s.1,(i64.wrap (s.2.1+1)),s.2.2.2.1,s.2.2.2.2.1,s.2.2.2.2.2.1,s.2.2.2.2.2.2.1,s.2.2.2.2.2.2.2.1,s.2.2.2.2.2.2.2.2.1,s.2.2.2.2.2.2.2.2.2.1,s.2.2.2.2.2.2.2.2.2.2.1,()))
def qt (cq:lE->Option (List ak×bN×Int×Unit)) (s:RK):Option (RK⊕(kZ⊕kZ)):=
 bif decide (s.2.1<s.1) then
  bif decide (0<=s.2.1)&&decide (s.2.1<(List.length s.2.2.2.2.2.2.2.2.1:Int)) then
   let t0:=(List.getD s.2.2.2.2.2.2.2.2.1 (Int.toNat s.2.1) ([],([],(0,()))))
   let t1:=(!decide (s.2.2.2.2.2.2.2.1=0))
   bif !t1 then
    match ES (t0,s.2.2.1,s.2.2.2.2.2.2.2.2.2.1,()) with
    |none=>none
    |some aM=>
     ER cq (s.1,s.2.1,(!aM.1),aM.2.1,s.2.2.2.1,s.2.2.2.2.1,s.2.2.2.2.2.1,s.2.2.2.2.2.2.1,s.2.2.2.2.2.2.2.1,s.2.2.2.2.2.2.2.2.1,aM.2.2.1,())
   else
    ER cq (s.1,s.2.1,true,s.2.2.1,s.2.2.2.1,s.2.2.2.2.1,s.2.2.2.2.2.1,s.2.2.2.2.2.2.1,s.2.2.2.2.2.2.2.1,s.2.2.2.2.2.2.2.2.1,s.2.2.2.2.2.2.2.2.2.1,())
  else none
 else
  some (.inr (.inr (s.2.2.1,s.2.2.2.1,s.2.2.2.2.1,s.2.2.2.2.2.1,s.2.2.2.2.2.2.1,s.2.2.2.2.2.2.2.1,s.2.2.2.2.2.2.2.2.2.1,())))
def vn (cq:lE->Option (List ak×bN×Int×Unit)) (s:RK):Option (kZ⊕kZ):=bM (qt cq) s
def vm (cq:lE->Option (List ak×bN×Int×Unit)) (s:List ak×Int×Int×ah×List ah×bN×Int×List ak×Unit):Option kZ:=
 match wT (s.1,s.2.2.2.2.1,()) with
 |none=>none
 |some aj=>
  match vn cq (((List.length aj.1):Int),0,s.2.1,s.2.2.1,s.2.2.2.1,s.2.2.2.2.1,s.2.2.2.2.2.1,s.2.2.2.2.2.2.1,aj.1,s.2.2.2.2.2.2.2.1,()) with
  |none=>none
  |some (.inl aH)=>
   some (aH.1,aH.2.1,aH.2.2.1,aH.2.2.2.1,aH.2.2.2.2.1,aH.2.2.2.2.2.1,aH.2.2.2.2.2.2.1,())
  |some (.inr aH)=>
   some (aH.1,aH.2.1,aH.2.2.1,aH.2.2.2.1,aH.2.2.2.2.1,aH.2.2.2.2.2.1,aH.2.2.2.2.2.2.1,())
def qs (cq:lE->Option (List ak×bN×Int×Unit)) (s:kZ):Option kZ:=
 match j9 (s.2.2.2.2.1,s.2.1,()) with
 |none=>none
 |some aj=>
  bif (!decide (aj.2.1=0)) then
   some (s.1,s.2.1,s.2.2.1,s.2.2.2.1,s.2.2.2.2.1,aj.2.1,s.2.2.2.2.2.2.1,())
  else
   match rK (aj.1,()) with
   |none=>none
   |some ar=>
    bif !ar.1 then
     match cq (aj.1,s.2.2.1,s.2.2.2.1,s.2.2.2.2.1,s.2.2.2.2.2.1,()) with
     |none=>none
     |some aM=>
      match uH (aM.1,aj.1.2.2.2.2.1,()) with
      |none=>none
      |some bF=>
       vm cq (bF.1,s.1,s.2.1,s.2.2.1,s.2.2.2.1,aM.2.1,aM.2.2.1,s.2.2.2.2.2.2.1,())
    else
     vm cq (aj.1.1,s.1,s.2.1,s.2.2.1,s.2.2.2.1,s.2.2.2.2.1,s.2.2.2.2.2.1,s.2.2.2.2.2.2.1,())
def vy (cq:lE->Option (List ak×bN×Int×Unit)) (s:Hn):Option (Hn⊕((List ak×bN×Int×bq×ah×List ah×Unit)⊕Unit)):=
 bif decide (s.2.2.2.1<s.2.2.1) then
  bif decide (0<=s.2.2.2.1)&&decide (s.2.2.2.1<(List.length s.2.1:Int)) then
   let t0:=(List.getD s.2.1 (Int.toNat s.2.2.2.1) ([],([],())))
   match BH (t0,s.2.2.2.2.2.2.1.2.2.2.2.1,()) with
   |none=>none
   |some ar=>
    bif decide ((List.length s.2.2.2.2.2.2.2.2.1+List.length ar.1)*32<=bm) then
     let t2:=i64.wrap (s.2.2.2.1+1)
     some (.inl (s.1,s.2.1,s.2.2.1,t2,s.2.2.2.2.1,s.2.2.2.2.2.1,s.2.2.2.2.2.2.1,s.2.2.2.2.2.2.2.1,(s.2.2.2.2.2.2.2.2.1++ar.1),()))
    else none
  else none
 else
  some (.inr (.inl (s.1,s.2.2.2.2.1,s.2.2.2.2.2.1,s.2.2.2.2.2.2.1,s.2.2.2.2.2.2.2.1,s.2.2.2.2.2.2.2.2.1,())))
def mt (cq:lE->Option (List ak×bN×Int×Unit)) (s:Hn):Option ((List ak×bN×Int×bq×ah×List ah×Unit)⊕Unit):=bM (vy cq) s
def sF (cq:lE->Option (List ak×bN×Int×Unit)) (s:Ho):Option (Ho⊕((List ak×bN×Int×Unit)⊕(bN×Int×List ak×Unit))):=
 bif decide (s.2.2.1<s.2.1) then
  bif decide (0<=s.2.2.1)&&decide (s.2.2.1<(List.length s.2.2.2.2.2.2.2.1:Int)) then
   let t0:=(List.getD s.2.2.2.2.2.2.2.1 (Int.toNat s.2.2.1) ([],([],())))
   match yL (s.2.2.2.2.2.2.1,t0,()) with
   |none=>none
   |some ar=>
    bif !ar.1 then
     some (.inl (s.1,s.2.1,(i64.wrap (s.2.2.1+1)),s.2.2.2.1,s.2.2.2.2.1,s.2.2.2.2.2.1,ar.2.1,s.2.2.2.2.2.2.2.1,s.2.2.2.2.2.2.2.2.1,()))
    else
     bif decide (0<=s.2.2.1)&&decide (s.2.2.1<(List.length s.2.2.2.2.2.1.2.2.1:Int)) then
      let t2:=(List.getD s.2.2.2.2.2.1.2.2.1 (Int.toNat s.2.2.1) 0)
      match o5 (t2,ar.2.2.1,ar.2.1,s.2.2.2.1,s.2.2.2.2.1,()) with
      |none=>none
      |some bF=>
       match qs cq (0,bF.2.2.1,bF.2.2.2.1,bF.2.2.2.2.1,bF.1,bF.2.1,s.2.2.2.2.2.2.2.2.1,()) with
       |none=>none
       |some cT=>
        bif decide (cT.1=0) then
         some (.inl (s.1,s.2.1,(i64.wrap (s.2.2.1+1)),cT.2.2.2.2.1,cT.2.2.2.2.2.1,s.2.2.2.2.2.1,ar.2.1,s.2.2.2.2.2.2.2.1,cT.2.2.2.2.2.2.1,()))
        else
         bif decide (cT.1=1) then
          some (.inr (.inl (s.1,cT.2.2.2.2.1,cT.2.2.2.2.2.1,())))
         else none
     else none
  else none
 else
  some (.inr (.inr (s.2.2.2.1,s.2.2.2.2.1,s.2.2.2.2.2.2.2.2.1,())))
def Fw (cq:lE->Option (List ak×bN×Int×Unit)) (s:Ho):Option ((List ak×bN×Int×Unit)⊕(bN×Int×List ak×Unit)):=bM (sF cq) s
def ii (cq:lE->Option (List ak×bN×Int×Unit)) (s:lE):Option (List ak×bN×Int×Unit):=
 match mt cq ([],s.2.2.1,((List.length s.2.2.1):Int),0,s.2.2.2.1,s.2.2.2.2.1,s.1,s.2.1,[],()) with
 |none=>none
 |some (.inl z0)=>
  match BL (z0.2.2.2.1,z0.2.2.2.2.1,()) with
  |none=>none
  |some ar=>
   match Fw cq (z0.1,((List.length ar.1):Int),0,z0.2.1,z0.2.2.1,z0.2.2.2.1,z0.2.2.2.2.2.1,ar.1,[],()) with
   |none=>none
   |some (.inl z2)=>
    some (z2.1,z2.2.1,z2.2.2.1,())
   |some (.inr z2)=>
    some (z2.2.2.1,z2.1,z2.2.1,())
 |some (.inr z0)=>
  none
def o1:Nat->lE->Option (List ak×bN×Int×Unit)
 |0,_=>none
 |n+1,s=>ii (o1 n) s
def FJ (s:lE):Option (List ak×bN×Int×Unit):=o1 jV s
def FB (s:ak×Int×List ak×Unit):Option (Bool×Int×List ak×Unit):=
 bif decide (s.2.1=0) then
  bif decide (s.2.1=0) then
   bif (decide ((List.length s.2.2.1+List.length ([s.1]:List ak))*40<=bm)) then
    let t0:List ak:=(s.2.2.1++([s.1]:List ak))
    some (true,0,t0,())
   else none
  else none
 else none
def Fm (s:Qu):Option (RK⊕(kZ⊕kZ)):=
 bif s.2.2.1 then
  some (.inr (.inl (s.2.2.2.1,s.2.2.2.2.1,s.2.2.2.2.2.1,s.2.2.2.2.2.2.1,s.2.2.2.2.2.2.2.1,s.2.2.2.2.2.2.2.2.1,s.2.2.2.2.2.2.2.2.2.2.1,())))
 else
  some (.inl (s.1,(i64.wrap (s.2.1+1)),s.2.2.2.1,s.2.2.2.2.1,s.2.2.2.2.2.1,s.2.2.2.2.2.2.1,s.2.2.2.2.2.2.2.1,s.2.2.2.2.2.2.2.2.1,s.2.2.2.2.2.2.2.2.2.1,s.2.2.2.2.2.2.2.2.2.2.1,()))
def sB (s:RK):Option (RK⊕(kZ⊕kZ)):=
 bif decide (s.2.1<s.1) then
  bif decide (0<=s.2.1)&&decide (s.2.1<(List.length s.2.2.2.2.2.2.2.2.1:Int)) then
   let t0:=(List.getD s.2.2.2.2.2.2.2.2.1 (Int.toNat s.2.1) ([],([],(0,()))))
   let t1:=(!decide (s.2.2.2.2.2.2.2.1=0))
   bif !t1 then
    match FB (t0,s.2.2.1,s.2.2.2.2.2.2.2.2.2.1,()) with
    |none=>none
    |some aM=>
     Fm (s.1,s.2.1,(!aM.1),aM.2.1,s.2.2.2.1,s.2.2.2.2.1,s.2.2.2.2.2.1,s.2.2.2.2.2.2.1,s.2.2.2.2.2.2.2.1,s.2.2.2.2.2.2.2.2.1,aM.2.2.1,())
   else
    Fm (s.1,s.2.1,true,s.2.2.1,s.2.2.2.1,s.2.2.2.2.1,s.2.2.2.2.2.1,s.2.2.2.2.2.2.1,s.2.2.2.2.2.2.2.1,s.2.2.2.2.2.2.2.2.1,s.2.2.2.2.2.2.2.2.2.1,())
  else none
 else
  some (.inr (.inr (s.2.2.1,s.2.2.2.1,s.2.2.2.2.1,s.2.2.2.2.2.1,s.2.2.2.2.2.2.1,s.2.2.2.2.2.2.2.1,s.2.2.2.2.2.2.2.2.2.1,())))
def vr:=bM sB
def sE (s:Int×Int×ah×List ah×bN×Int×Unit):Option kZ:=
 match j9 (s.2.2.2.2.1,s.2.1,()) with
 |none=>none
 |some aj=>
  bif (!decide (aj.2.1=0)) then
   some (s.1,s.2.1,s.2.2.1,s.2.2.2.1,s.2.2.2.2.1,aj.2.1,[],())
  else
   match rK (aj.1,()) with
   |none=>none
   |some ar=>
    bif !ar.1 then
     match FJ (aj.1,s.2.2.1,s.2.2.2.1,s.2.2.2.2.1,s.2.2.2.2.2.1,()) with
     |none=>none
     |some aM=>
      match uH (aM.1,aj.1.2.2.2.2.1,()) with
      |none=>none
      |some bF=>
       match wT (bF.1,s.2.2.2.1,()) with
       |none=>none
       |some cT=>
        match vr (((List.length cT.1):Int),0,s.1,s.2.1,s.2.2.1,s.2.2.2.1,aM.2.1,aM.2.2.1,cT.1,[],()) with
        |none=>none
        |some (.inl z5)=>
         some (z5.1,z5.2.1,z5.2.2.1,z5.2.2.2.1,z5.2.2.2.2.1,z5.2.2.2.2.2.1,z5.2.2.2.2.2.2.1,())
        |some (.inr z5)=>
         some (z5.1,z5.2.1,z5.2.2.1,z5.2.2.2.1,z5.2.2.2.2.1,z5.2.2.2.2.2.1,z5.2.2.2.2.2.2.1,())
    else
     match wT (aj.1.1,s.2.2.2.1,()) with
     |none=>none
     |some aM=>
      match vr (((List.length aM.1):Int),0,s.1,s.2.1,s.2.2.1,s.2.2.2.1,s.2.2.2.2.1,s.2.2.2.2.2.1,aM.1,[],()) with
      |none=>none
      |some (.inl z3)=>
       some (z3.1,z3.2.1,z3.2.2.1,z3.2.2.2.1,z3.2.2.2.2.1,z3.2.2.2.2.2.1,z3.2.2.2.2.2.2.1,())
      |some (.inr z3)=>
       some (z3.1,z3.2.1,z3.2.2.1,z3.2.2.2.1,z3.2.2.2.2.1,z3.2.2.2.2.2.1,z3.2.2.2.2.2.2.1,())
def jc (s:cy×ah×Unit):Option (Int×List ak×Unit):=
 match o5 (s.1.2.1,([],([],())),([s.2.1]:List ah),s.1.1,0,()) with
 |none=>none
 |some aj=>
  match sE (0,aj.2.2.1,aj.2.2.2.1,aj.2.2.2.2.1,aj.1,aj.2.1,()) with
  |none=>none
  |some ar=>
   bif decide (ar.1=0) then
    let t2:=(!decide (ar.2.2.2.2.2.1=0))
    bif t2 then
     some (ar.2.2.2.2.2.1,[],())
    else
     some (0,ar.2.2.2.2.2.2.1,())
   else
    bif decide (ar.1=1) then
     some (0,[],())
    else none
def AV (s:List ak×List ak×Int×Unit):Option ((List ak×List ak×Int×Unit)⊕((Bool×Unit)⊕Unit)):=
 let t0:=(decide (s.2.2.1<((List.length s.1):Int)))
 bif t0 then
  bif decide (0<=s.2.2.1)&&decide (s.2.2.1<(List.length s.1:Int)) then
   let t1:=(List.getD s.1 (Int.toNat s.2.2.1) ([],([],(0,()))))
   bif decide (0<=s.2.2.1)&&decide (s.2.2.1<(List.length s.2.1:Int)) then
    let t2:=(List.getD s.2.1 (Int.toNat s.2.2.1) ([],([],(0,()))))
    let t3:=(!(aD.eqb bd t1 t2))
    bif t3 then
     some (.inr (.inl (false,())))
    else
     some (.inl (s.1,s.2.1,(i64.wrap (s.2.2.1+1)),()))
   else none
  else none
 else
  some (.inr (.inr (())))
def Ii:=bM AV
def tI (s:xx):Option (Bool×Unit):=
 let t0:=(!decide ((((List.length s.1):Int):Int)=((List.length s.2.1):Int)))
 bif t0 then
  some (false,())
 else
  match Ii (s.1,s.2.1,0,()) with
  |none=>none
  |some (.inl aH)=>
   some (aH.1,())
  |some (.inr aH)=>
   some (true,())
def RV (s:Int×Int×List jJ×Unit):Option ((Int×Int×List jJ×Unit)⊕((Bool×Unit)⊕Unit)):=
 bif decide (s.2.1<s.1) then
  bif decide (0<=s.2.1)&&decide (s.2.1<(List.length s.2.2.1:Int)) then
   let t0:=(List.getD s.2.2.1 (Int.toNat s.2.1) (0,(0,())))
   bif (!(decide (t0.1<0))) then
    bif (!(decide (t0.1>t0.2.1))) then
     let t1:=decide (t0.2.1>1000000000000000)
     bif t1 then
      some (.inr (.inl (false,())))
     else
      some (.inl (s.1,(i64.wrap (s.2.1+1)),s.2.2.1,()))
    else
     some (.inr (.inl (false,())))
   else
    some (.inr (.inl (false,())))
  else none
 else
  some (.inr (.inr (())))
def RX:=bM RV
def Vg (s:dY×Unit):Option (Bool×Unit):=
 let t0:Int:=((List.length ([s.1.1,s.1.2.1]:List jJ)):Int)
 match RX (t0,0,([s.1.1,s.1.2.1]:List jJ),()) with
 |none=>none
 |some (.inl aH)=>
  some (aH.1,())
 |some (.inr aH)=>
  some (true,())
def Ug (s:Cg):Option (Cg⊕((Bool×Unit)⊕Unit)):=
 let t0:=(decide (s.2.1<((List.length s.1):Int)))
 bif t0 then
  bif (decide (0<=(i64.wrap (s.2.1-1)))&&decide (((i64.wrap (s.2.1-1)):Int)<(List.length s.1:Int))) then
   let t1:=(List.getD s.1 (Int.toNat (i64.wrap (s.2.1-1))) ([],([],(0,()))))
   bif decide (0<=s.2.1)&&decide (s.2.1<(List.length s.1:Int)) then
    let t2:=(List.getD s.1 (Int.toNat s.2.1) ([],([],(0,()))))
    bif (!(Op.bytesLess t1.1 t2.1)) then
     some (.inr (.inl (false,())))
    else
     some (.inl (s.1,(i64.wrap (s.2.1+1)),()))
   else none
  else none
 else
  some (.inr (.inr (())))
def Ui:=bM Ug
def WY (s:List ak×Unit):Option (Bool×Unit):=
 match Ui (s.1,1,()) with
 |none=>none
 |some (.inl z0)=>
  some (z0.1,())
 |some (.inr z0)=>
  some (true,())
def Vf (s:ak×Unit):Option (Bool×Unit):=
 let t0:=(decide ((((List.length s.1.1):Int):Int)>=1))
 bif t0 then
  let t1:=(decide ((((List.length s.1.1):Int):Int)<=65535))
  bif t1 then
   let t2:=(decide ((((List.length s.1.2.1):Int):Int)<=64))
   bif t2 then
    bif decide (s.1.2.2.1>=0) then
     let t3:=decide (s.1.2.2.1<=1000000000)
     some (t3,())
    else
     some (false,())
   else
    some (false,())
  else
   some (false,())
 else
  some (false,())
def Wm (s:ak×ah×Unit):Option (Bool×ah×Unit):=
 match Vf (s.1,()) with
 |none=>none
 |some aj=>
  bif (!(!aj.1)) then
   match pR (s.2.1,s.1.1,()) with
   |none=>none
   |some ar=>
    some ((!ar.1),s.2.1,())
  else
   some (true,s.2.1,())
def ab5 (s:List ak×Int×Int×ah×Unit):Option ((List ak×Int×Int×ah×Unit)⊕((Int×ah×Unit)⊕(ah×Unit))):=
 bif decide (s.2.2.1<s.2.1) then
  bif decide (0<=s.2.2.1)&&decide (s.2.2.1<(List.length s.1:Int)) then
   let t0:=(List.getD s.1 (Int.toNat s.2.2.1) ([],([],(0,()))))
   match Wm (t0,s.2.2.2.1,()) with
   |none=>none
   |some ar=>
    bif ar.1 then
     some (.inr (.inl (s.2.2.1,ar.2.1,())))
    else
     some (.inl (s.1,s.2.1,(i64.wrap (s.2.2.1+1)),ar.2.1,()))
  else none
 else
  some (.inr (.inr (s.2.2.2.1,())))
def ab7:=bM ab5
def acr (s:uv):Option (Int×ah×Unit):=
 match ab7 (s.1,((List.length s.1):Int),0,s.2.1,()) with
 |none=>none
 |some (.inl z0)=>
  some (z0.1,z0.2.1,())
 |some (.inr z0)=>
  some ((-1:Int),z0.1,())
def acp (s:uv):Option (Bool×ah×Unit):=
 match acr (s.1,s.2.1,()) with
 |none=>none
 |some aj=>
  some ((decide (aj.1>=0)),aj.2.1,())
def Ib (s:a6×Unit):Option (List ah×Unit):=
 some ([],())
def H6 (s:a6×Unit):Option (List ah×Unit):=
 some ([],())
def PV (s:a6×Unit):Option (List ah×Unit):=
 some ([],())
def PX (s:a6×Unit):Option (List ah×Unit):=
 match kN (s.1.2.2.2.2.1,()) with
 |none=>none
 |some aj=>
  some (([aj.1]:List ah),())
def Pq (s:a6×Unit):Option (List ah×Unit):=
 match kN (s.1.2.2.2.2.1,()) with
 |none=>none
 |some aj=>
  some (([aj.1]:List ah),())
def Pv (s:a6×Unit):Option (List ah×Unit):=
 some (([s.1.2.2.2.1]:List ah),())
def pL (s:a6×Unit):Option (List ah×Unit):=
 bif decide (s.1.1=1) then
  match Ib (s.1,()) with
  |none=>none
  |some aj=>
   some (aj.1,())
 else
  bif decide (s.1.1=2) then
   match H6 (s.1,()) with
   |none=>none
   |some aj=>
    some (aj.1,())
  else
   bif decide (s.1.1=3) then
    match PV (s.1,()) with
    |none=>none
    |some aj=>
     some (aj.1,())
   else
    bif decide (s.1.1=4) then
     match PX (s.1,()) with
     |none=>none
     |some aj=>
      some (aj.1,())
    else
     bif decide (s.1.1=5) then
      match Pq (s.1,()) with
      |none=>none
      |some aj=>
       some (aj.1,())
     else
      bif decide (s.1.1=6) then
       match Pv (s.1,()) with
       |none=>none
       |some aj=>
        some (aj.1,())
      else
       some ([],())
def WW (s:r2):Option (Bool×Unit):=
 match j0 (s.2.1,()) with
 |none=>none
 |some aj=>
  bif !aj.1 then
   match pR (s.1,s.2.1.1,()) with
   |none=>none
   |some ar=>
    bif ar.1 then
     match wh (s.1.2.1,s.2.1.2.1,()) with
     |none=>none
     |some aM=>
      some ((decide (aM.1>=0)),())
    else
     some (false,())
  else
   some (true,())
def I0 (s:r2):Option (Bool×ah×Unit):=
 match WW (s.2.1,s.1,()) with
 |none=>none
 |some aj=>
  some ((!aj.1),s.2.1,())
def acb (s:List ah×Int×Int×ah×Unit):Option ((List ah×Int×Int×ah×Unit)⊕((Int×ah×Unit)⊕(ah×Unit))):=
 bif decide (s.2.2.1<s.2.1) then
  bif decide (0<=s.2.2.1)&&decide (s.2.2.1<(List.length s.1:Int)) then
   let t0:=(List.getD s.1 (Int.toNat s.2.2.1) ([],([],())))
   match I0 (t0,s.2.2.2.1,()) with
   |none=>none
   |some ar=>
    bif ar.1 then
     some (.inr (.inl (s.2.2.1,ar.2.1,())))
    else
     some (.inl (s.1,s.2.1,(i64.wrap (s.2.2.1+1)),ar.2.1,()))
  else none
 else
  some (.inr (.inr (s.2.2.2.1,())))
def abE:=bM acb
def acw (s:p6):Option (Int×ah×Unit):=
 match abE (s.1,((List.length s.1):Int),0,s.2.1,()) with
 |none=>none
 |some (.inl z0)=>
  some (z0.1,z0.2.1,())
 |some (.inr z0)=>
  some ((-1:Int),z0.1,())
def jp (s:p6):Option (Bool×ah×Unit):=
 match acw (s.1,s.2.1,()) with
 |none=>none
 |some aj=>
  some ((decide (aj.1>=0)),aj.2.1,())
def abF (s:Cp):Option (Cp⊕((Int×List ah×ah×Unit)⊕p6)):=
 bif decide (s.2.1<s.1) then
  bif decide (0<=s.2.1)&&decide (s.2.1<(List.length s.2.2.1:Int)) then
   let t0:=(List.getD s.2.2.1 (Int.toNat s.2.1) ([],([],())))
   match I0 (t0,s.2.2.2.1,()) with
   |none=>none
   |some ar=>
    bif ar.1 then
     some (.inr (.inl (s.2.1,s.2.2.1,ar.2.1,())))
    else
     some (.inl (s.1,(i64.wrap (s.2.1+1)),s.2.2.1,ar.2.1,()))
  else none
 else
  some (.inr (.inr (s.2.2.1,s.2.2.2.1,())))
def abH:=bM abF
def acx (s:p6):Option (Int×List ah×ah×Unit):=
 match abH (((List.length s.1):Int),0,s.1,s.2.1,()) with
 |none=>none
 |some (.inl z0)=>
  some (z0.1,z0.2.1,z0.2.2.1,())
 |some (.inr z0)=>
  some ((-1:Int),z0.1,z0.2.1,())
def ab4 (s:p6):Option (Bool×List ah×ah×Unit):=
 match acx (s.1,s.2.1,()) with
 |none=>none
 |some aj=>
  some ((decide (aj.1>=0)),aj.2.1,aj.2.2.1,())
def VW (s:a6×ah×Unit):Option (Bool×ah×Unit):=
 match oh (s.1,()) with
 |none=>none
 |some aj=>
  bif (!(!aj.1)) then
   match pL (s.1,()) with
   |none=>none
   |some ar=>
    match jp (ar.1,s.2.1,()) with
    |none=>none
    |some aM=>
     bif !aM.1 then
      match oc (s.1,()) with
      |none=>none
      |some bF=>
       match ab4 (bF.1,aM.2.1,()) with
       |none=>none
       |some cT=>
        some (cT.1,cT.2.2.1,())
     else
      some (true,aM.2.1,())
  else
   some (true,s.2.1,())
def acK (s:List a6×Int×Int×ah×Unit):Option ((List a6×Int×Int×ah×Unit)⊕((Int×ah×Unit)⊕(ah×Unit))):=
 bif decide (s.2.2.1<s.2.1) then
  bif decide (0<=s.2.2.1)&&decide (s.2.2.1<(List.length s.1:Int)) then
   let t0:=(List.getD s.1 (Int.toNat s.2.2.1) (0,([],([],(([],([],())),([],([],(0,()))))))))
   match VW (t0,s.2.2.2.1,()) with
   |none=>none
   |some ar=>
    bif ar.1 then
     some (.inr (.inl (s.2.2.1,ar.2.1,())))
    else
     some (.inl (s.1,s.2.1,(i64.wrap (s.2.2.1+1)),ar.2.1,()))
  else none
 else
  some (.inr (.inr (s.2.2.2.1,())))
def kw:=bM acK
def acU (s:List a6×ah×Unit):Option (Int×ah×Unit):=
 match kw (s.1,((List.length s.1):Int),0,s.2.1,()) with
 |none=>none
 |some (.inl z0)=>
  some (z0.1,z0.2.1,())
 |some (.inr z0)=>
  some ((-1:Int),z0.1,())
def acT (s:List a6×ah×Unit):Option (Bool×ah×Unit):=
 match acU (s.1,s.2.1,()) with
 |none=>none
 |some aj=>
  some ((decide (aj.1>=0)),aj.2.1,())
def UW (s:Qy):Option (Qy⊕((Bool×Unit)⊕xz)):=
 bif decide (s.2.2.2.1<s.2.2.1) then
  bif decide (0<=s.2.2.2.1)&&decide (s.2.2.2.1<(List.length s.2.1:Int)) then
   let t0:=(List.getD s.2.1 (Int.toNat s.2.2.2.1) [])
   let t1:=(Op.bytesLess t0 s.1||decide ((t0:af)=s.1))
   bif !t1 then
    let t2:=(!decide ((s.2.2.2.2.2.1.2.1:af)=[]))
    bif t2 then
     bif (!(Op.bytesLess t0 s.2.2.2.2.2.1.2.1)) then
      some (.inr (.inl (false,())))
     else
      let t3:=i64.wrap (s.2.2.2.1+1)
      some (.inl (t0,s.2.1,s.2.2.1,t3,s.2.2.2.2.1,s.2.2.2.2.2.1,()))
    else
     let t3:=i64.wrap (s.2.2.2.1+1)
     some (.inl (t0,s.2.1,s.2.2.1,t3,s.2.2.2.2.1,s.2.2.2.2.2.1,()))
   else
    some (.inr (.inl (false,())))
  else none
 else
  some (.inr (.inr (s.2.2.2.2.1,s.2.2.2.2.2.1,())))
def Vd:=bM UW
def Vc (s:Q0):Option (Q0⊕((Bool×Unit)⊕xz)):=
 bif decide (s.2.2.1<s.2.1) then
  bif decide (0<=s.2.2.1)&&decide (s.2.2.1<(List.length s.1:Int)) then
   let t0:=(List.getD s.1 (Int.toNat s.2.2.1) 0)
   bif (!(decide (t0<0))) then
    bif (!(decide (t0>=4096))) then
     bif decide (0<=s.2.2.1)&&decide (s.2.2.1<(List.length s.2.2.2.1.2.2.2.1:Int)) then
      let t1:=(List.getD s.2.2.2.1.2.2.2.1 (Int.toNat s.2.2.1) ((0,(0,())),((0,(0,())),())))
      match Vg (t1,()) with
      |none=>none
      |some aM=>
       bif !aM.1 then
        some (.inr (.inl (false,())))
       else
        some (.inl (s.1,s.2.1,(i64.wrap (s.2.2.1+1)),s.2.2.2.1,s.2.2.2.2.1,()))
     else none
    else
     some (.inr (.inl (false,())))
   else
    some (.inr (.inl (false,())))
  else none
 else
  some (.inr (.inr (s.2.2.2.1,s.2.2.2.2.1,())))
def Ve:=bM Vc
def Ig (s:Bool×bq×ah×Unit):Option (Bool×Unit):=
 bif s.1 then
  some (false,())
 else
  match Vd (s.2.2.1.1,s.2.1.2.1,((List.length s.2.1.2.1):Int),0,s.2.1,s.2.2.1,()) with
  |none=>none
  |some (.inl z0)=>
   some (z0.1,())
  |some (.inr z0)=>
   match Ve (z0.1.2.2.1,((List.length z0.1.2.2.1):Int),0,z0.1,z0.2.1,()) with
   |none=>none
   |some (.inl aH)=>
    some (aH.1,())
   |some (.inr aH)=>
    match acT (aH.1.2.2.2.2.1,aH.2.1,()) with
    |none=>none
    |some aM=>
     some ((!aM.1),())
def Xh (s:xz):Option (Bool×Unit):=
 let t0:=(decide ((((List.length s.1.2.2.1):Int):Int)=0))
 bif t0 then
  let t1:=(i64.wrap (((List.length s.1.2.1):Int)+((List.length s.1.2.2.2.1):Int)))
  let t2:=(i64.wrap (t1+((List.length s.1.2.2.2.2.1):Int)))
  bif decide (t2=0) then
   match WY (s.1.1,()) with
   |none=>none
   |some bF=>
    bif bF.1 then
     match acp (s.1.1,s.2.1,()) with
     |none=>none
     |some cT=>
      some ((!cT.1),())
    else
     some (false,())
  else
   some (false,())
 else
  let t1:=(decide ((((List.length s.1.1):Int):Int)>0))
  bif !t1 then
   let t2:=(!decide ((((List.length s.1.2.2.2.1):Int):Int)=((List.length s.1.2.2.1):Int)))
   bif !t2 then
    let t3:=(i64.wrap (((List.length s.1.2.2.1):Int)-1))
    let t4:=(!decide ((((List.length s.1.2.1):Int):Int)=t3))
    Ig (t4,s.1,s.2.1,())
   else
    Ig (true,s.1,s.2.1,())
  else
   Ig (true,s.1,s.2.1,())
def wZ (s:oH):Option (Int×Int×Int×Int×Unit):=
 let t0:Int:=(if ((i64.wrap (s.2.2.1+s.1)):Int)<0 then 0 else (i64.wrap (s.2.2.1+s.1)))
 let t1:Int:=(if (1000000000000000:Int)<t0 then 1000000000000000 else t0)
 let t2:Int:=(if (1000000000000000:Int)<(i64.wrap (s.2.2.2.1+s.2.1)) then 1000000000000000 else (i64.wrap (s.2.2.2.1+s.2.1)))
 some (t1,t2,s.2.2.2.2.1,s.2.2.2.2.2.1,())
def pm (s:oH):Option (Int×Int×Int×Int×Unit):=
 let t0:Int:=(if ((i64.wrap (s.2.2.2.2.1+s.1)):Int)<0 then 0 else (i64.wrap (s.2.2.2.2.1+s.1)))
 let t1:Int:=(if (1000000000000000:Int)<t0 then 1000000000000000 else t0)
 let t2:=i64.wrap (s.2.2.2.2.2.1+s.2.1)
 let t3:Int:=(if (1000000000000000:Int)<t2 then 1000000000000000 else t2)
 some (s.2.2.1,s.2.2.2.1,t1,t3,())
def Od (s:hf):Option (Int×Unit):=some ((fun a c=>Lib.indexByte a c.toNat.toUInt8) s.1 s.2.1,())
def Rv (s:hf):Option (Int×Unit):=
 match Od (s.1,s.2.1,()) with
 |none=>none
 |some aj=>
  some (aj.1,())
def ad3 (s:Int×Unit):Option (Bool×Unit):=
 bif decide ((0:Int)<=s.1) then
  bif decide (s.1<55296) then
   some (true,())
  else
   bif decide ((57343:Int)<s.1) then
    bif decide (s.1<=1114111) then
     some (true,())
    else
     some (false,())
   else
    some (false,())
 else
  bif decide ((57343:Int)<s.1) then
   bif decide (s.1<=1114111) then
    some (true,())
   else
    some (false,())
  else
   some (false,())
def aem (s:hf):Option (hf⊕((Int×Unit)⊕Unit)):=
 bif decide (s.2.1<(List.length s.1:Int)) then
  let t0:=(decide (((mV s.1 s.2.1).1:Int)=65533))
  bif t0 then
   some (.inr (.inl (s.2.1,())))
  else
   some (.inl (s.1,(s.2.1+(mV s.1 s.2.1).2),()))
 else
  some (.inr (.inr (())))
def aep:=bM aem
def aeo (s:HA):Option (Int×Unit):=
 bif s.2.2.1 then
  match Rv (s.1,(IntKind.u8.wrap s.2.1),()) with
  |none=>none
  |some aj=>
   some (aj.1,())
 else
  bif decide (s.2.1=65533) then
   match aep (s.1,0,()) with
   |none=>none
   |some (.inl z0)=>
    some (z0.1,())
   |some (.inr z0)=>
    some ((-1:Int),())
  else
   match ad3 (s.2.1,()) with
   |none=>none
   |some aj=>
    bif !aj.1 then
     some ((-1:Int),())
    else none
def F3 (s:hf):Option (Int×Unit):=
 bif decide ((0:Int)<=s.2.1) then
  aeo (s.1,s.2.1,(decide (s.2.1<128)),())
 else
  aeo (s.1,s.2.1,false,())
def adI (s:Int×Unit):Option (Bool×Unit):=
 some ((decide (s.1>8)),())
def ad7 (s:ak):Option (ak⊕((Int×Unit)⊕Unit)):=
 bif decide (s.2.2.1<(List.length s.2.1:Int)) then
  match F3 (s.1,(mV s.2.1 s.2.2.1).1,()) with
  |none=>none
  |some aj=>
   bif decide (aj.1>=0) then
    some (.inr (.inl (s.2.2.1,())))
   else
    some (.inl (s.1,s.2.1,(s.2.2.1+(mV s.2.1 s.2.2.1).2),()))
 else
  some (.inr (.inr (())))
def ad9:=bM ad7
def OY (s:ah):Option (Int×Unit):=
 let t0:=decide ((s.2.1:af)=[])
 bif t0 then
  some ((-1:Int),())
 else
  let t1:=(decide ((((List.length s.2.1):Int):Int)=1))
  bif t1 then
   bif decide ((0:Int)<(List.length s.2.1:Int)) then
    let t2:=(IntKind.i32.wrap ((List.getD s.2.1 0 0).toNat:Int))
    bif decide (t2>=128) then
     match F3 (s.1,65533,()) with
     |none=>none
     |some bF=>
      some (bF.1,())
    else
     match F3 (s.1,t2,()) with
     |none=>none
     |some bF=>
      some (bF.1,())
   else none
  else
   match adI (((List.length s.1):Int),()) with
   |none=>none
   |some aM=>
    bif aM.1 then
     none
    else
     match ad9 (s.2.1,s.1,0,()) with
     |none=>none
     |some (.inl z3)=>
      some (z3.1,())
     |some (.inr z3)=>
      some ((-1:Int),())
def R2 (s:ah):Option (Int×Unit):=Ay (OY s) (x7 s)
def TA (s:xA):Option (af×Int×af×af×Int×Int×af×Unit):=
 match R2 (s.1,([1,2,3]:af),()) with
 |none=>none
 |some aj=>
  bif decide (aj.1<0) then
   some ([],0,s.1,s.2.1,s.2.2.1,s.2.2.2.1,s.2.2.2.2.1,())
  else
   bif decide ((0:Int)<=aj.1)&&decide (aj.1<=(List.length s.1:Int)) then
    let t1:=(List.drop 0 (List.take (Int.toNat aj.1) s.1))
    bif decide (0<=aj.1)&&decide (aj.1<(List.length s.1:Int)) then
     let t2:Int:=((List.getD s.1 (Int.toNat aj.1) 0).toNat:Int)
     bif (decide (0<=(i64.wrap (aj.1+1)))&&decide (((i64.wrap (aj.1+1)):Int)<=(List.length s.1:Int))&&decide (((List.length s.1:Int):Int)<=(List.length s.1:Int))) then
      let t3:=(List.drop (Int.toNat (i64.wrap (aj.1+1))) (List.take (Int.toNat (List.length s.1:Int)) s.1))
      some (t1,t2,t3,s.2.1,s.2.2.1,s.2.2.2.1,s.2.2.2.2.1,())
     else none
    else none
   else none
def RB (s:QC):Option xA:=
 bif s.2.1 then
  bif decide ((0:Int)<(List.length s.2.2.1:Int)) then
   let t0:=i64.wrap ((List.getD s.2.2.1 0 0).toNat:Int)
   let t1:=(i64.wrap (t0*2^(min (Int.toNat 8) i64.bits)))
   bif decide ((1:Int)<(List.length s.2.2.1:Int)) then
    let t2:Int:=((List.getD s.2.2.1 (Int.toNat 1) 0).toNat:Int)
    let t3:=(i64.wrap ((BitVec.ofInt i64.bits t1 ||| BitVec.ofInt i64.bits (i64.wrap t2)).toNat:Int))
    some (s.2.2.1,s.2.2.2.1,s.2.2.2.2.1,t3,s.2.2.2.2.2.2.1,())
   else none
  else none
 else
  bif decide (s.1=3) then
   some (s.2.2.1,s.2.2.2.1,s.2.2.2.2.1,s.2.2.2.2.2.1,s.2.2.1,())
  else
   some (s.2.2.1,s.2.2.2.1,s.2.2.2.2.1,s.2.2.2.2.2.1,s.2.2.2.2.2.2.1,())
def RA (s:QC):Option xA:=
 bif s.2.1 then
  some (s.2.2.1,s.2.2.2.1,4,s.2.2.2.2.2.1,s.2.2.2.2.2.2.1,())
 else
  bif decide (s.1=2) then
   let t0:=(decide ((((List.length s.2.2.1):Int):Int)=2))
   RB (s.1,t0,s.2.2.1,s.2.2.2.1,s.2.2.2.2.1,s.2.2.2.2.2.1,s.2.2.2.2.2.2.1,())
  else
   RB (s.1,false,s.2.2.1,s.2.2.2.1,s.2.2.2.2.1,s.2.2.2.2.2.1,s.2.2.2.2.2.2.1,())
def SR (s:xA):Option xA:=
 match F2 (s.1,([6]:af),()) with
 |none=>none
 |some aj=>
  match TA (aj.1,s.2.1,s.2.2.1,s.2.2.2.1,s.2.2.2.2.1,()) with
  |none=>none
  |some ar=>
   bif aj.2.1 then
    RA (ar.2.1,(decide (ar.2.1=1)),ar.2.2.1,ar.1,(i64.wrap ar.2.1),ar.2.2.2.2.2.1,ar.2.2.2.2.2.2.1,())
   else
    RA (ar.2.1,false,ar.2.2.1,ar.1,(i64.wrap ar.2.1),ar.2.2.2.2.2.1,ar.2.2.2.2.2.2.1,())
def ads (s:af×af×Int×Bool×Unit):Option (Int×Unit):=
 bif s.2.2.2.1 then
  some (0,())
 else
  bif decide (s.2.2.1=1) then
   bif decide ((0:Int)<(List.length s.2.1:Int)) then
    match Od (s.1,((List.getD s.2.1 0 0).toNat:Int),()) with
    |none=>none
    |some aj=>
     some (aj.1,())
   else none
  else
   let t0:=(decide (s.2.2.1>=((List.length s.1):Int)))
   bif t0 then
    some ((-1:Int),())
   else none
def adu (s:ah):Option (Int×Unit):=
 let t0:=(decide ((((List.length s.2.1):Int):Int)=0))
 bif !t0 then
  ads (s.1,s.2.1,((List.length s.2.1):Int),(decide ((s.2.1:af)=s.1)),())
 else
  ads (s.1,s.2.1,((List.length s.2.1):Int),true,())
def adE (s:ah):Option xy:=
 match adu (s.1,s.2.1,()) with
 |none=>none
 |some aj=>
  bif decide (aj.1>=0) then
   bif decide ((0:Int)<=aj.1)&&decide (aj.1<=(List.length s.1:Int)) then
    let t1:=(List.drop 0 (List.take (Int.toNat aj.1) s.1))
    let t2:=(i64.wrap (aj.1+((List.length s.2.1):Int)))
    bif (decide (0<=t2)&&decide (t2<=(List.length s.1:Int))&&decide (((List.length s.1:Int):Int)<=(List.length s.1:Int))) then
     let t3:=(List.drop (Int.toNat t2) (List.take (Int.toNat (List.length s.1:Int)) s.1))
     some (t1,t3,true,())
    else none
   else none
  else
   some (s.1,[],false,())
def WX (s:ah):Option xy:=
 match adE (s.1,s.2.1,()) with
 |none=>none
 |some aj=>
  some (aj.1,aj.2.1,aj.2.2.1,())
def Vl (s:Int×Unit):Option (Bool×Unit):=
 bif (!(decide (s.1<33))) then
  bif (!(decide (s.1>126))) then
   some ((decide (s.1=47)),())
  else
   some (true,())
 else
  some (true,())
def aer (s:Bool×af×Int×Unit):Option ((Bool×af×Int×Unit)⊕((Int×Unit)⊕Unit)):=
 bif decide (s.2.2.1<(List.length s.2.1:Int)) then
  match Vl ((mV s.2.1 s.2.2.1).1,()) with
  |none=>none
  |some aj=>
   bif (aj.1==s.1) then
    some (.inr (.inl (s.2.2.1,())))
   else
    some (.inl (s.1,s.2.1,(s.2.2.1+(mV s.2.1 s.2.2.1).2),()))
 else
  some (.inr (.inr (())))
def aet:=bM aer
def Rz (s:um):Option (Int×Unit):=
 match aet (s.2.1,s.1,0,()) with
 |none=>none
 |some (.inl z0)=>
  some (z0.1,())
 |some (.inr z0)=>
  some ((-1:Int),())
def Rw (s:af×Unit):Option (Int×Unit):=
 match Rz (s.1,true,()) with
 |none=>none
 |some aj=>
  some (aj.1,())
def Jy (s:af×Unit):Option (Bool×Unit):=
 let t0:=decide ((s.1:af)=[])
 bif !t0 then
  let t1:=(decide ((((List.length s.1):Int):Int)>12))
  bif !t1 then
   let t2:=decide ((s.1:af)=([46]:af))
   bif !t2 then
    let t3:=decide ((s.1:af)=([46,46]:af))
    bif t3 then
     some (false,())
    else
     match Rw (s.1,()) with
     |none=>none
     |some cT=>
      some ((decide (cT.1<0)),())
   else
    some (false,())
  else
   some (false,())
 else
  some (false,())
def Vh (s:af×Unit):Option ((af×Unit)⊕((Bool×Unit)⊕Unit)):=
 let t0:=(!decide ((s.1:af)=[]))
 bif t0 then
  match WX (s.1,([47]:af),()) with
  |none=>none
  |some ar=>
   bif (!(!ar.2.2.1)) then
    match Jy (ar.1,()) with
    |none=>none
    |some aM=>
     bif !aM.1 then
      some (.inr (.inl (false,())))
     else
      some (.inl (ar.2.1,()))
   else
    some (.inr (.inl (false,())))
 else
  some (.inr (.inr (())))
def Vj:=bM Vh
def JZ (s:af×Unit):Option (Bool×Unit):=
 match Vj (s.1,()) with
 |none=>none
 |some (.inl z0)=>
  some (z0.1,())
 |some (.inr z0)=>
  some (true,())
def adw (s:HA):Option (hf⊕((af×Unit)⊕Unit)):=
 bif s.2.2.1 then
  let t0:=(i64.wrap (((List.length s.1):Int)-1))
  bif decide ((0:Int)<=t0)&&decide (t0<=(List.length s.1:Int)) then
   let t1:=(List.drop 0 (List.take (Int.toNat t0) s.1))
   some (.inl (t1,s.2.1,()))
  else none
 else
  some (.inr (.inl (s.1,())))
def adL (s:hf):Option (hf⊕((af×Unit)⊕Unit)):=
 let t0:=(decide ((((List.length s.1):Int):Int)>0))
 bif t0 then
  let t1:=(i64.wrap (((List.length s.1):Int)-1))
  bif decide (0<=t1)&&decide (t1<(List.length s.1:Int)) then
   let t2:Int:=((List.getD s.1 (Int.toNat t1) 0).toNat:Int)
   adw (s.1,s.2.1,(decide (t2=s.2.1)),())
  else none
 else
  adw (s.1,s.2.1,false,())
def adN:=bM adL
def aea (s:hf):Option (af×Unit):=
 match adN (s.1,s.2.1,()) with
 |none=>none
 |some (.inl z0)=>
  some (z0.1,())
 |some (.inr z0)=>
  none
def adA (s:HA):Option (hf⊕((af×Unit)⊕Unit)):=
 bif s.2.2.1 then
  bif (decide ((1:Int)<=(List.length s.1:Int))&&decide (((List.length s.1:Int):Int)<=(List.length s.1:Int))) then
   let t0:=(List.drop (Int.toNat 1) (List.take (Int.toNat (List.length s.1:Int)) s.1))
   some (.inl (t0,s.2.1,()))
  else none
 else
  some (.inr (.inl (s.1,())))
def ad0 (s:hf):Option (hf⊕((af×Unit)⊕Unit)):=
 let t0:=(decide ((((List.length s.1):Int):Int)>0))
 bif t0 then
  bif decide ((0:Int)<(List.length s.1:Int)) then
   let t1:=(decide ((((List.getD s.1 0 0).toNat:Int):Int)=s.2.1))
   adA (s.1,s.2.1,t1,())
  else none
 else
  adA (s.1,s.2.1,false,())
def ad2:=bM ad0
def aeu (s:hf):Option (af×Unit):=
 match ad2 (s.1,s.2.1,()) with
 |none=>none
 |some (.inl z0)=>
  some (z0.1,())
 |some (.inr z0)=>
  none
def Ry (s:xy):Option (af×Unit):=
 bif s.2.2.1 then
  bif decide ((0:Int)<(List.length s.2.1:Int)) then
   match aea (s.1,((List.getD s.2.1 0 0).toNat:Int),()) with
   |none=>none
   |some aj=>
    bif decide ((0:Int)<(List.length s.2.1:Int)) then
     match aeu (aj.1,((List.getD s.2.1 0 0).toNat:Int),()) with
     |none=>none
     |some ar=>
      some (ar.1,())
    else none
  else none
 else none
def Rx (s:xy):Option (af×Unit):=
 bif s.2.2.1 then
  some (s.1,())
 else
  let t0:=(decide ((((List.length s.2.1):Int):Int)=1))
  bif t0 then
   bif decide ((0:Int)<(List.length s.2.1:Int)) then
    let t1:=(decide ((((List.getD s.2.1 0 0).toNat:Int):Int)<128))
    Ry (s.1,s.2.1,t1,())
   else none
  else
   Ry (s.1,s.2.1,false,())
def HX (s:ah):Option (af×Unit):=
 let t0:=decide ((s.1:af)=[])
 bif !t0 then
  let t1:=decide ((s.2.1:af)=[])
  Rx (s.1,s.2.1,t1,())
 else
  Rx (s.1,s.2.1,true,())
def Wn (s:ah):Option (af×Unit):=Ay (HX s) (x3 s)
def Gu (s:um):Option (Bool×Unit):=
 bif s.2.1 then
  some (false,())
 else
  bif decide ((9:Int)<=(List.length s.1:Int)) then
   let t0:=(List.drop (Int.toNat 1) (List.take (Int.toNat 9) s.1))
   match Wn (t0,([48,49,50,51,52,53,54,55,56,57,97,98,99,100,101,102]:af),()) with
   |none=>none
   |some ar=>
    let t2:=decide ((ar.1:af)=[])
    some (t2,())
  else none
def WA (s:af×Unit):Option (Bool×Unit):=
 let t0:=(!decide ((((List.length s.1):Int):Int)=10))
 bif !t0 then
  bif decide ((0:Int)<(List.length s.1:Int)) then
   let t1:=(!decide ((((List.getD s.1 0 0).toNat:Int):Int)=5))
   bif !t1 then
    bif decide ((1:Int)<(List.length s.1:Int)) then
     let t2:Int:=((List.getD s.1 (Int.toNat 1) 0).toNat:Int)
     bif (!(decide (t2>55))) then
      bif decide ((9:Int)<(List.length s.1:Int)) then
       let t3:Int:=((List.getD s.1 (Int.toNat 9) 0).toNat:Int)
       Gu (s.1,(!decide (t3=47)),())
      else none
     else
      Gu (s.1,true,())
    else none
   else
    Gu (s.1,true,())
  else none
 else
  Gu (s.1,true,())
def s8 (s:Bool×im×Unit):Option (Unit⊕hf):=
 bif s.1 then
  bif decide (List.length ([6]:af)+List.length s.2.1.1<=bm) then
   bif (decide (List.length (([6]:af)++s.2.1.1)+List.length ([1]:af)<=bm)) then
    let t0:af:=((([6]:af)++s.2.1.1)++([1]:af))
    some (.inr (t0,0,()))
   else none
  else none
 else
  some (.inl (()))
def qV (s:Cm):Option (Unit⊕hf):=
 bif s.1 then
  bif decide (List.length s.2.1.1+List.length ([3]:af)<=bm) then
   bif (decide (List.length (s.2.1.1++([3]:af))+List.length s.2.1.2.2.2.1<=bm)) then
    let t0:af:=((s.2.1.1++([3]:af))++s.2.1.2.2.2.1)
    some (.inr (t0,0,()))
   else none
  else none
 else
  bif decide (s.2.1.2.1=4) then
   let t0:=(aD.eqb fX s.2.1 (s.2.2.1,(s.2.2.2.1,(s.2.2.2.2.1,(s.2.2.2.2.2.1,())))))
   match s8 (t0,s.2.1,()) with
   |none=>none
   |some (.inl aH)=>
    some (.inl (()))
   |some (.inr aH)=>
    some (.inr (aH.1,aH.2.1,()))
  else
   match s8 (false,s.2.1,()) with
   |none=>none
   |some (.inl z0)=>
    some (.inl (()))
   |some (.inr z0)=>
    some (.inr (z0.1,z0.2.1,()))
def o6 (s:Cm):Option (Unit⊕hf):=
 bif s.1 then
  let t0:Int:=(Int.fdiv s.2.1.2.2.1 (2^(min (Int.toNat 8) i64.bits)))
  let t1:af:=(rQ ([2,(IntKind.u8.wrap t0),(IntKind.u8.wrap s.2.1.2.2.1)]:List Int))
  bif decide (List.length s.2.1.1+List.length t1<=bm) then
   some (.inr ((s.2.1.1++t1),0,()))
  else none
 else
  bif decide (s.2.1.2.1=3) then
   let t0:=decide (s.2.1.2.2.1=0)
   bif t0 then
    match Jy (s.2.1.2.2.2.1,()) with
    |none=>none
    |some ar=>
     match qV (ar.1,s.2.1,s.2.2.1,s.2.2.2.1,s.2.2.2.2.1,s.2.2.2.2.2.1,()) with
     |none=>none
     |some (.inl z2)=>
      some (.inl (()))
     |some (.inr z2)=>
      some (.inr (z2.1,z2.2.1,()))
   else
    match qV (false,s.2.1,s.2.2.1,s.2.2.2.1,s.2.2.2.2.1,s.2.2.2.2.2.1,()) with
    |none=>none
    |some (.inl aH)=>
     some (.inl (()))
    |some (.inr aH)=>
     some (.inr (aH.1,aH.2.1,()))
  else
   match qV (false,s.2.1,s.2.2.1,s.2.2.2.1,s.2.2.2.2.1,s.2.2.2.2.2.1,()) with
   |none=>none
   |some (.inl z0)=>
    some (.inl (()))
   |some (.inr z0)=>
    some (.inr (z0.1,z0.2.1,()))
def s7 (s:Cm):Option (Unit⊕hf):=
 bif s.1 then
  bif decide (List.length s.2.1.1+List.length ([1]:af)<=bm) then
   some (.inr ((s.2.1.1++([1]:af)),0,()))
  else none
 else
  bif decide (s.2.1.2.1=2) then
   let t0:=decide ((s.2.1.2.2.2.1:af)=[])
   bif t0 then
    let t1:=decide (s.2.1.2.2.1>=0)
    bif t1 then
     let t2:=decide (s.2.1.2.2.1<=60000)
     match o6 (t2,s.2.1,s.2.2.1,s.2.2.2.1,s.2.2.2.2.1,s.2.2.2.2.2.1,()) with
     |none=>none
     |some (.inl z3)=>
      some (.inl (()))
     |some (.inr z3)=>
      some (.inr (z3.1,z3.2.1,()))
    else
     match o6 (false,s.2.1,s.2.2.1,s.2.2.2.1,s.2.2.2.2.1,s.2.2.2.2.2.1,()) with
     |none=>none
     |some (.inl z2)=>
      some (.inl (()))
     |some (.inr z2)=>
      some (.inr (z2.1,z2.2.1,()))
   else
    match o6 (false,s.2.1,s.2.2.1,s.2.2.2.1,s.2.2.2.2.1,s.2.2.2.2.2.1,()) with
    |none=>none
    |some (.inl aH)=>
     some (.inl (()))
    |some (.inr aH)=>
     some (.inr (aH.1,aH.2.1,()))
  else
   match o6 (false,s.2.1,s.2.2.1,s.2.2.2.1,s.2.2.2.2.1,s.2.2.2.2.2.1,()) with
   |none=>none
   |some (.inl z0)=>
    some (.inl (()))
   |some (.inr z0)=>
    some (.inr (z0.1,z0.2.1,()))
def qW (s:Cm):Option (Unit⊕hf):=
 bif s.1 then
  bif decide (s.2.1.2.1=1) then
   let t0:=(aD.eqb fX s.2.1 (s.2.2.1,(s.2.2.2.1,(s.2.2.2.2.1,(s.2.2.2.2.2.1,())))))
   match s7 (t0,s.2.1,s.2.2.1,s.2.2.2.1,s.2.2.2.2.1,s.2.2.2.2.2.1,()) with
   |none=>none
   |some (.inl aH)=>
    some (.inl (()))
   |some (.inr aH)=>
    some (.inr (aH.1,aH.2.1,()))
  else
   match s7 (false,s.2.1,s.2.2.1,s.2.2.2.1,s.2.2.2.2.1,s.2.2.2.2.2.1,()) with
   |none=>none
   |some (.inl z0)=>
    some (.inl (()))
   |some (.inr z0)=>
    some (.inr (z0.1,z0.2.1,()))
 else
  some (.inl (()))
def YN (s:im×Unit):Option hf:=
 match JZ (s.1.1,()) with
 |none=>none
 |some aj=>
  bif !aj.1 then
   match WA (s.1.1,()) with
   |none=>none
   |some ar=>
    bif ar.1 then
     match qW ((!decide (s.1.2.1=4)),s.1,s.1.1,s.1.2.1,0,[],()) with
     |none=>none
     |some (.inl z2)=>
      some ([],12,())
     |some (.inr z2)=>
      some (z2.1,z2.2.1,())
    else
     match qW (false,s.1,s.1.1,s.1.2.1,0,[],()) with
     |none=>none
     |some (.inl z2)=>
      some ([],12,())
     |some (.inr z2)=>
      some (z2.1,z2.2.1,())
  else
   match qW (true,s.1,s.1.1,s.1.2.1,0,[],()) with
   |none=>none
   |some (.inl aH)=>
    some ([],12,())
   |some (.inr aH)=>
    some (aH.1,aH.2.1,())
def BM (s:af×Unit):Option (im×Int×Unit):=
 match SR (s.1,[],0,0,[],()) with
 |none=>none
 |some aj=>
  match YN ((aj.2.1,(aj.2.2.1,(aj.2.2.2.1,(aj.2.2.2.2.1,())))),()) with
  |none=>none
  |some ar=>
   bif (!(!decide (ar.2.1=0))) then
    bif (!decide ((ar.1:af)=s.1)) then
     some (([],(0,(0,([],())))),12,())
    else
     some ((aj.2.1,(aj.2.2.1,(aj.2.2.2.1,(aj.2.2.2.2.1,())))),0,())
   else
    some (([],(0,(0,([],())))),12,())
def CK (s:oH):Option (Int×Int×Int×Int×Unit):=
 match wZ (s.1,s.2.1,s.2.2.1,s.2.2.2.1,s.2.2.2.2.1,s.2.2.2.2.2.1,()) with
 |none=>none
 |some aj=>
  match pm (s.1,s.2.1,aj.1,aj.2.1,aj.2.2.1,aj.2.2.2.1,()) with
  |none=>none
  |some ar=>
   some (ar.1,ar.2.1,ar.2.2.1,ar.2.2.2.1,())
def C6 (s:af×Unit):Option (Int×Unit):=
 let t0:=decide ((s.1:af)=[])
 bif t0 then
  some (0,())
 else
  bif decide ((0:Int)<(List.length s.1:Int)) then
   let t1:=(decide ((((List.getD s.1 0 0).toNat:Int):Int)=6))
   bif t1 then
    some (6,())
   else
    match JZ (s.1,()) with
    |none=>none
    |some aM=>
     bif aM.1 then
      some (1,())
     else
      bif decide (List.length s.1+List.length ([1]:af)<=bm) then
       match BM ((s.1++([1]:af)),()) with
       |none=>none
       |some bF=>
        bif decide (bF.2.1=0) then
         bif decide ((bF.1.1:af)=s.1) then
          some (5,())
         else
          some (0,())
        else
         some (0,())
      else none
  else none
def Xi (s:ah):Option (Bool×Unit):=
 match C6 (s.1,()) with
 |none=>none
 |some aj=>
  bif (!decide (aj.1=0)) then
   match C6 (s.1,()) with
   |none=>none
   |some ar=>
    match C6 (s.2.1,()) with
    |none=>none
    |some aM=>
     some ((decide (ar.1=aM.1)),())
  else
   some (false,())
def Wc (s:ak×Unit):Option tJ:=
 match BM (s.1.1,()) with
 |none=>none
 |some aj=>
  bif (!decide (aj.2.1=0)) then
   some ((0,(0,())),())
  else
   bif decide (aj.1.2.1=1) then
    some ((1,(0,())),())
   else
    bif decide (aj.1.2.1=4) then
     some ((0,(0,())),())
    else
     some ((0,(((List.length s.1.2.1):Int),())),())
def TZ (s:QY):Option (QY⊕((Int×Int×Int×Int×Unit)⊕Unit)):=
 bif decide (s.2.2.1<s.2.1) then
  bif decide (0<=s.2.2.1)&&decide (s.2.2.1<(List.length s.1:Int)) then
   let t0:=(List.getD s.1 (Int.toNat s.2.2.1) ([],([],(0,()))))
   match Wc (t0,()) with
   |none=>none
   |some ar=>
    let t2:=i64.wrap (s.2.2.2.2.2.1+ar.1.1)
    let t3:=i64.wrap (s.2.2.2.2.2.2.1+ar.1.2.1)
    some (.inl (s.1,s.2.1,(i64.wrap (s.2.2.1+1)),s.2.2.2.1,s.2.2.2.2.1,t2,t3,()))
  else none
 else
  some (.inr (.inl (s.2.2.2.1,s.2.2.2.2.1,s.2.2.2.2.2.1,s.2.2.2.2.2.2.1,())))
def T1:=bM TZ
def W3 (s:List ak×Unit):Option tJ:=
 match T1 (s.1,((List.length s.1):Int),0,0,0,0,0,()) with
 |none=>none
 |some (.inl z0)=>
  some ((z0.2.2.1,(z0.2.2.2.1,())),())
 |some (.inr z0)=>
  none
def Wu (s:Qv):Option (Qv⊕((bq×Int×Int×Int×Int×Int×Int×Int×Int×Unit)⊕Unit)):=
 bif decide (s.2.2.1<s.2.1) then
  bif decide (0<=s.2.2.1)&&decide (s.2.2.1<(List.length s.1:Int)) then
   let t0:=(List.getD s.1 (Int.toNat s.2.2.1) ((0,(0,())),((0,(0,())),())))
   match wZ (t0.1.1,t0.1.2.1,s.2.2.2.2.2.2.2.2.1,s.2.2.2.2.2.2.2.2.2.1,s.2.2.2.2.2.2.2.2.2.2.1,s.2.2.2.2.2.2.2.2.2.2.2.1,()) with
   |none=>none
   |some ar=>
    match pm (t0.2.1.1,t0.2.1.2.1,ar.1,ar.2.1,ar.2.2.1,ar.2.2.2.1,()) with
    |none=>none
    |some aM=>
     some (.inl (s.1,s.2.1,(i64.wrap (s.2.2.1+1)),s.2.2.2.1,s.2.2.2.2.1,s.2.2.2.2.2.1,s.2.2.2.2.2.2.1,s.2.2.2.2.2.2.2.1,aM.1,aM.2.1,aM.2.2.1,aM.2.2.2.1,()))
  else none
 else
  some (.inr (.inl (s.2.2.2.1,s.2.2.2.2.1,s.2.2.2.2.2.1,s.2.2.2.2.2.2.1,s.2.2.2.2.2.2.2.1,s.2.2.2.2.2.2.2.2.1,s.2.2.2.2.2.2.2.2.2.1,s.2.2.2.2.2.2.2.2.2.2.1,s.2.2.2.2.2.2.2.2.2.2.2.1,())))
def Ww:=bM Wu
def Ty (s:List a6×Int×Int×Bool×Int×Int×Int×Int×Int×Int×Int×Int×a6×Unit):Option (xt⊕((Int×Int×Int×Int×Int×Int×Int×Int×Unit)⊕Unit)):=
 bif s.2.2.2.1 then
  match wZ ((-1:Int),0,s.2.2.2.2.2.2.2.2.1,s.2.2.2.2.2.2.2.2.2.1,s.2.2.2.2.2.2.2.2.2.2.1,s.2.2.2.2.2.2.2.2.2.2.2.1,()) with
  |none=>none
  |some aj=>
   some (.inl (s.1,s.2.1,(i64.wrap (s.2.2.1+1)),s.2.2.2.2.1,s.2.2.2.2.2.1,s.2.2.2.2.2.2.1,s.2.2.2.2.2.2.2.1,aj.1,aj.2.1,aj.2.2.1,aj.2.2.2.1,()))
 else
  let t0:=decide (s.2.2.2.2.2.2.2.2.2.2.2.2.1.1=2)
  bif t0 then
   match pm ((-64:Int),0,s.2.2.2.2.2.2.2.2.1,s.2.2.2.2.2.2.2.2.2.1,s.2.2.2.2.2.2.2.2.2.2.1,s.2.2.2.2.2.2.2.2.2.2.2.1,()) with
   |none=>none
   |some ar=>
    some (.inl (s.1,s.2.1,(i64.wrap (s.2.2.1+1)),s.2.2.2.2.1,s.2.2.2.2.2.1,s.2.2.2.2.2.2.1,s.2.2.2.2.2.2.2.1,ar.1,ar.2.1,ar.2.2.1,ar.2.2.2.1,()))
  else
   let t1:=decide (s.2.2.2.2.2.2.2.2.2.2.2.2.1.1=3)
   bif t1 then
    match CK ((-1000000000000000:Int),0,s.2.2.2.2.2.2.2.2.1,s.2.2.2.2.2.2.2.2.2.1,s.2.2.2.2.2.2.2.2.2.2.1,s.2.2.2.2.2.2.2.2.2.2.2.1,()) with
    |none=>none
    |some aM=>
     some (.inl (s.1,s.2.1,(i64.wrap (s.2.2.1+1)),s.2.2.2.2.1,s.2.2.2.2.2.1,s.2.2.2.2.2.2.1,s.2.2.2.2.2.2.2.1,aM.1,aM.2.1,aM.2.2.1,aM.2.2.2.1,()))
   else
    let t2:=decide (s.2.2.2.2.2.2.2.2.2.2.2.2.1.1=6)
    bif t2 then
     some (.inl (s.1,s.2.1,(i64.wrap (s.2.2.1+1)),s.2.2.2.2.1,s.2.2.2.2.2.1,s.2.2.2.2.2.2.1,s.2.2.2.2.2.2.2.1,s.2.2.2.2.2.2.2.2.1,s.2.2.2.2.2.2.2.2.2.1,s.2.2.2.2.2.2.2.2.2.2.1,s.2.2.2.2.2.2.2.2.2.2.2.1,()))
    else
     match Xi (s.2.2.2.2.2.2.2.2.2.2.2.2.1.2.2.2.2.1,s.2.2.2.2.2.2.2.2.2.2.2.2.1.2.2.2.2.2.1,()) with
     |none=>none
     |some bF=>
      bif !bF.1 then
       match CK ((-1000000000000000:Int),1000000000000000,s.2.2.2.2.2.2.2.2.1,s.2.2.2.2.2.2.2.2.2.1,s.2.2.2.2.2.2.2.2.2.2.1,s.2.2.2.2.2.2.2.2.2.2.2.1,()) with
       |none=>none
       |some cT=>
        some (.inl (s.1,s.2.1,(i64.wrap (s.2.2.1+1)),s.2.2.2.2.1,s.2.2.2.2.2.1,s.2.2.2.2.2.2.1,s.2.2.2.2.2.2.2.1,cT.1,cT.2.1,cT.2.2.1,cT.2.2.2.1,()))
      else
       let t4:=decide (s.2.2.2.2.2.2.2.2.2.2.2.2.1.1=5)
       bif t4 then
        match wZ ((-1000000000000000:Int),s.2.2.2.2.2.2.2.2.2.1,s.2.2.2.2.2.2.2.2.1,s.2.2.2.2.2.2.2.2.2.1,s.2.2.2.2.2.2.2.2.2.2.1,s.2.2.2.2.2.2.2.2.2.2.2.1,()) with
        |none=>none
        |some fH=>
         match pm ((-1000000000000000:Int),fH.2.2.2.1,fH.1,fH.2.1,fH.2.2.1,fH.2.2.2.1,()) with
         |none=>none
         |some gQ=>
          some (.inl (s.1,s.2.1,(i64.wrap (s.2.2.1+1)),s.2.2.2.2.1,s.2.2.2.2.2.1,s.2.2.2.2.2.2.1,s.2.2.2.2.2.2.2.1,gQ.1,gQ.2.1,gQ.2.2.1,gQ.2.2.2.1,()))
       else
        match CK ((-1000000000000000:Int),0,s.2.2.2.2.2.2.2.2.1,s.2.2.2.2.2.2.2.2.2.1,s.2.2.2.2.2.2.2.2.2.2.1,s.2.2.2.2.2.2.2.2.2.2.2.1,()) with
        |none=>none
        |some fH=>
         some (.inl (s.1,s.2.1,(i64.wrap (s.2.2.1+1)),s.2.2.2.2.1,s.2.2.2.2.2.1,s.2.2.2.2.2.2.1,s.2.2.2.2.2.2.2.1,fH.1,fH.2.1,fH.2.2.1,fH.2.2.2.1,()))
def Tx (s:Bool×List a6×Int×Int×Bool×Int×Int×Int×Int×Int×Int×Int×Int×a6×Unit):Option (xt⊕((Int×Int×Int×Int×Int×Int×Int×Int×Unit)⊕Unit)):=
 bif s.2.2.2.2.1 then
  match wZ (0,1,s.2.2.2.2.2.2.2.2.2.1,s.2.2.2.2.2.2.2.2.2.2.1,s.2.2.2.2.2.2.2.2.2.2.2.1,s.2.2.2.2.2.2.2.2.2.2.2.2.1,()) with
  |none=>none
  |some aj=>
   let t1:=i64.wrap (s.2.2.2.1+1)
   some (.inl (s.2.1,s.2.2.1,t1,s.2.2.2.2.2.1,s.2.2.2.2.2.2.1,s.2.2.2.2.2.2.2.1,s.2.2.2.2.2.2.2.2.1,aj.1,aj.2.1,aj.2.2.1,aj.2.2.2.1,()))
 else
  let t0:=decide (s.2.2.2.2.2.2.2.2.2.2.2.2.2.1.1=1)
  bif t0 then
   let t1:Int:=((List.length s.2.2.2.2.2.2.2.2.2.2.2.2.2.1.2.2.1):Int)
   match pm ((-64:Int),t1,s.2.2.2.2.2.2.2.2.2.1,s.2.2.2.2.2.2.2.2.2.2.1,s.2.2.2.2.2.2.2.2.2.2.2.1,s.2.2.2.2.2.2.2.2.2.2.2.2.1,()) with
   |none=>none
   |some aM=>
    let t3:=i64.wrap (s.2.2.2.1+1)
    some (.inl (s.2.1,s.2.2.1,t3,s.2.2.2.2.2.1,s.2.2.2.2.2.2.1,s.2.2.2.2.2.2.2.1,s.2.2.2.2.2.2.2.2.1,aM.1,aM.2.1,aM.2.2.1,aM.2.2.2.1,()))
  else
   let t1:=decide (s.2.2.2.2.2.2.2.2.2.2.2.2.2.1.1=2)
   bif t1 then
    Ty (s.2.1,s.2.2.1,s.2.2.2.1,s.1,s.2.2.2.2.2.1,s.2.2.2.2.2.2.1,s.2.2.2.2.2.2.2.1,s.2.2.2.2.2.2.2.2.1,s.2.2.2.2.2.2.2.2.2.1,s.2.2.2.2.2.2.2.2.2.2.1,s.2.2.2.2.2.2.2.2.2.2.2.1,s.2.2.2.2.2.2.2.2.2.2.2.2.1,s.2.2.2.2.2.2.2.2.2.2.2.2.2.1,())
   else
    Ty (s.2.1,s.2.2.1,s.2.2.2.1,false,s.2.2.2.2.2.1,s.2.2.2.2.2.2.1,s.2.2.2.2.2.2.2.1,s.2.2.2.2.2.2.2.2.1,s.2.2.2.2.2.2.2.2.2.1,s.2.2.2.2.2.2.2.2.2.2.1,s.2.2.2.2.2.2.2.2.2.2.2.1,s.2.2.2.2.2.2.2.2.2.2.2.2.1,s.2.2.2.2.2.2.2.2.2.2.2.2.2.1,())
def Tw (s:Bool×List a6×Int×Int×Int×Int×Int×Int×Int×Int×Int×Int×a6×Unit):Option (xt⊕((Int×Int×Int×Int×Int×Int×Int×Int×Unit)⊕Unit)):=
 let t0:=decide (s.2.2.2.2.2.2.2.2.2.2.2.2.1.1=1)
 bif t0 then
  Tx (s.1,s.2.1,s.2.2.1,s.2.2.2.1,s.1,s.2.2.2.2.1,s.2.2.2.2.2.1,s.2.2.2.2.2.2.1,s.2.2.2.2.2.2.2.1,s.2.2.2.2.2.2.2.2.1,s.2.2.2.2.2.2.2.2.2.1,s.2.2.2.2.2.2.2.2.2.2.1,s.2.2.2.2.2.2.2.2.2.2.2.1,s.2.2.2.2.2.2.2.2.2.2.2.2.1,())
 else
  Tx (s.1,s.2.1,s.2.2.1,s.2.2.2.1,false,s.2.2.2.2.1,s.2.2.2.2.2.1,s.2.2.2.2.2.2.1,s.2.2.2.2.2.2.2.1,s.2.2.2.2.2.2.2.2.1,s.2.2.2.2.2.2.2.2.2.1,s.2.2.2.2.2.2.2.2.2.2.1,s.2.2.2.2.2.2.2.2.2.2.2.1,s.2.2.2.2.2.2.2.2.2.2.2.2.1,())
def Wv (s:xt):Option (xt⊕((Int×Int×Int×Int×Int×Int×Int×Int×Unit)⊕Unit)):=
 bif decide (s.2.2.1<s.2.1) then
  bif decide (0<=s.2.2.1)&&decide (s.2.2.1<(List.length s.1:Int)) then
   let t0:=(List.getD s.1 (Int.toNat s.2.2.1) (0,([],([],(([],([],())),([],([],(0,()))))))))
   match BM (t0.2.1,()) with
   |none=>none
   |some ar=>
    bif decide (ar.2.1=0) then
     Tw ((decide (ar.1.2.1=1)),s.1,s.2.1,s.2.2.1,s.2.2.2.1,s.2.2.2.2.1,s.2.2.2.2.2.1,s.2.2.2.2.2.2.1,s.2.2.2.2.2.2.2.1,s.2.2.2.2.2.2.2.2.1,s.2.2.2.2.2.2.2.2.2.1,s.2.2.2.2.2.2.2.2.2.2.1,t0,())
    else
     Tw (false,s.1,s.2.1,s.2.2.1,s.2.2.2.1,s.2.2.2.2.1,s.2.2.2.2.2.1,s.2.2.2.2.2.2.1,s.2.2.2.2.2.2.2.1,s.2.2.2.2.2.2.2.2.1,s.2.2.2.2.2.2.2.2.2.1,s.2.2.2.2.2.2.2.2.2.2.1,t0,())
  else none
 else
  some (.inr (.inl (s.2.2.2.1,s.2.2.2.2.1,s.2.2.2.2.2.1,s.2.2.2.2.2.2.1,s.2.2.2.2.2.2.2.1,s.2.2.2.2.2.2.2.2.1,s.2.2.2.2.2.2.2.2.2.1,s.2.2.2.2.2.2.2.2.2.2.1,())))
def Wx:=bM Wv
def Yv (s:bq×Unit):Option (dY×Unit):=
 let t0:=(decide ((((List.length s.1.2.2.1):Int):Int)=0))
 bif t0 then
  match W3 (s.1.1,()) with
  |none=>none
  |some ar=>
   some (((ar.1.1,(ar.1.1,())),((ar.1.2.1,(ar.1.2.1,())),())),())
 else
  match Ww (s.1.2.2.2.1,((List.length s.1.2.2.2.1):Int),0,s.1,0,0,0,0,0,0,0,0,()) with
  |none=>none
  |some (.inl aH)=>
   match Wx (aH.1.2.2.2.2.1,((List.length aH.1.2.2.2.2.1):Int),0,aH.2.1,aH.2.2.1,aH.2.2.2.1,aH.2.2.2.2.1,aH.2.2.2.2.2.1,aH.2.2.2.2.2.2.1,aH.2.2.2.2.2.2.2.1,aH.2.2.2.2.2.2.2.2.1,()) with
   |none=>none
   |some (.inl z2)=>
    some (((z2.2.2.2.2.1,(z2.2.2.2.2.2.1,())),((z2.2.2.2.2.2.2.1,(z2.2.2.2.2.2.2.2.1,())),())),())
   |some (.inr z2)=>
    none
  |some (.inr aH)=>
   none
def RJ (eU:p5->Option (Int×Unit)) (s:Int×Int×Int×Int×Int×bN×bq×List ah×Unit):Option (B5⊕((Int×Unit)⊕(Int×Unit))):=
 bif decide (0<=s.2.1)&&decide (s.2.1<(List.length s.2.2.2.2.2.2.1.2.2.1:Int)) then
  let t0:=(List.getD s.2.2.2.2.2.2.1.2.2.1 (Int.toNat s.2.1) 0)
  match j9 (s.2.2.2.2.2.1,t0,()) with
  |none=>none
  |some ar=>
   match Yv (ar.1,()) with
   |none=>none
   |some aM=>
    bif decide (0<=s.2.1)&&decide (s.2.1<(List.length s.2.2.2.2.2.2.1.2.2.2.1:Int)) then
     let t3:=(List.getD s.2.2.2.2.2.2.1.2.2.2.1 (Int.toNat s.2.1) ((0,(0,())),((0,(0,())),())))
     let t4:=(!(aD.eqb dK aM.1 t3))
     bif t4 then
      some (.inr (.inl (0,())))
     else
      let t5:=i64.wrap (s.2.2.2.2.1+1)
      some (.inl (s.1,s.2.2.1,s.2.2.2.1,t5,s.2.2.2.2.2.1,s.2.2.2.2.2.2.1,s.2.2.2.2.2.2.2.1,()))
    else none
 else none
def H0 (eU:p5->Option (Int×Unit)) (s:B5):Option (B5⊕((Int×Unit)⊕(Int×Unit))):=
 bif decide (s.2.2.2.1<s.2.2.1) then
  bif decide (0<=s.2.2.2.1)&&decide (s.2.2.2.1<(List.length s.2.2.2.2.2.2.1:Int)) then
   let t0:=(List.getD s.2.2.2.2.2.2.1 (Int.toNat s.2.2.2.1) ([],([],())))
   bif decide (0<=s.2.2.2.1)&&decide (s.2.2.2.1<(List.length s.2.2.2.2.2.1.2.2.1:Int)) then
    let t1:=(List.getD s.2.2.2.2.2.1.2.2.1 (Int.toNat s.2.2.2.1) 0)
    match eU (s.2.2.2.2.1,t1,t0,(i64.wrap (s.1-1)),()) with
    |none=>none
    |some aM=>
     bif (!(decide (aM.1=0))) then
      bif decide (s.2.2.2.1>0) then
       bif (!decide (aM.1=s.2.1)) then
        some (.inr (.inl (0,())))
       else
        RJ eU (s.1,s.2.2.2.1,aM.1,s.2.2.1,s.2.2.2.1,s.2.2.2.2.1,s.2.2.2.2.2.1,s.2.2.2.2.2.2.1,())
      else
       RJ eU (s.1,s.2.2.2.1,aM.1,s.2.2.1,s.2.2.2.1,s.2.2.2.2.1,s.2.2.2.2.2.1,s.2.2.2.2.2.2.1,())
     else
      some (.inr (.inl (0,())))
   else none
  else none
 else
  some (.inr (.inr (s.2.1,())))
def H3 (eU:p5->Option (Int×Unit)) (s:B5):Option ((Int×Unit)⊕(Int×Unit)):=bM (H0 eU) s
def H2 (eU:p5->Option (Int×Unit)) (s:Int×Bool×bN×ah×bq×Unit):Option (Int×Unit):=
 bif s.2.1 then
  some (0,())
 else
  match rK (s.2.2.2.2.1,()) with
  |none=>none
  |some aj=>
   bif aj.1 then
    some (1,())
   else
    match BL (s.2.2.2.2.1,s.2.2.2.1,()) with
    |none=>none
    |some ar=>
     match H3 eU (s.1,0,((List.length ar.1):Int),0,s.2.2.1,s.2.2.2.2.1,ar.1,()) with
     |none=>none
     |some (.inl z2)=>
      some (z2.1,())
     |some (.inr z2)=>
      some ((i64.wrap (z2.1+1)),())
def Pf (eU:p5->Option (Int×Unit)) (s:p5):Option (Int×Unit):=
 match j9 (s.1,s.2.1,()) with
 |none=>none
 |some aj=>
  bif (!(!decide (aj.2.1=0))) then
   bif (!(decide (s.2.2.2.1=0))) then
    match Xh (aj.1,s.2.2.1,()) with
    |none=>none
    |some ar=>
     H2 eU (s.2.2.2.1,(!ar.1),s.1,s.2.2.1,aj.1,())
   else
    H2 eU (s.2.2.2.1,true,s.1,s.2.2.1,aj.1,())
  else
   H2 eU (s.2.2.2.1,true,s.1,s.2.2.1,aj.1,())
def Pe:Nat->p5->Option (Int×Unit)
 |0,_=>none
 |n+1,s=>Pf (Pe n) s
def W0 (s:p5):Option (Int×Unit):=Pe jV s
def Kb (s:cy×Unit):Option (Bool×Unit):=
 match Kc (s.1.2.2.1,()) with
 |none=>none
 |some aj=>
  bif aj.1 then
   match W0 (s.1.1,s.1.2.1,([],([],())),64,()) with
   |none=>none
   |some ar=>
    some ((decide (ar.1>0)),())
  else
   some (false,())
def m7 (eD:Cf->Option mL) (eF:(fa×Unit)->Option (cy×Int×Unit)) (eP:(cy×a6×Unit)->Option (cy×Int×Unit)) (eE:(cy×Unit)->Option (Int×Unit)) (eN:Unit->Option (cy×Unit)) (eQ:(cy×ah×Unit)->Option (Int×List ak×Unit)) (eO:xx->Option (Bool×Unit)) (eA:(cy×Unit)->Option (Bool×Unit)) (s:Bool×Int×Bool×Int×Bool×cy×ak×List ak×cy×Unit):Option ((Bool×Unit)⊕Unit):=
 bif s.2.2.2.2.1 then
  let t0:=(aD.eqb bd s.2.2.2.2.2.2.1 (([99,47,120]:af),(([49]:af),(0,()))))
  bif t0 then
   bif s.1 then
    bif decide (s.2.1=2) then
     bif !s.2.2.1 then
      bif decide (s.2.2.2.1=1) then
       match eO (s.2.2.2.2.2.2.2.1,([(([99,47,120]:af),(([49]:af),(0,())))]:List ak),()) with
       |none=>none
       |some ar=>
        bif ar.1 then
         match eA (s.2.2.2.2.2.1,()) with
         |none=>none
         |some aM=>
          bif aM.1 then
           match eA (s.2.2.2.2.2.2.2.2.1,()) with
           |none=>none
           |some bF=>
            bif bF.1 then
             match eE (s.2.2.2.2.2.1,()) with
             |none=>none
             |some cT=>
              bif decide (cT.1=2) then
               match eE (s.2.2.2.2.2.2.2.2.1,()) with
               |none=>none
               |some fH=>
                bif decide (fH.1=1) then
                 match eA ((([],()),(0,((0,(0,(0,()))),()))),()) with
                 |none=>none
                 |some gQ=>
                  some (.inl ((!gQ.1),()))
                else
                 some (.inl (false,()))
              else
               some (.inl (false,()))
            else
             some (.inl (false,()))
          else
           some (.inl (false,()))
        else
         some (.inl (false,()))
      else
       some (.inl (false,()))
     else
      some (.inl (false,()))
    else
     some (.inl (false,()))
   else
    some (.inl (false,()))
  else
   some (.inl (false,()))
 else
  some (.inl (false,()))
def O0 (eD:Cf->Option mL) (eF:(fa×Unit)->Option (cy×Int×Unit)) (eP:(cy×a6×Unit)->Option (cy×Int×Unit)) (eE:(cy×Unit)->Option (Int×Unit)) (eN:Unit->Option (cy×Unit)) (eQ:(cy×ah×Unit)->Option (Int×List ak×Unit)) (eO:xx->Option (Bool×Unit)) (eA:(cy×Unit)->Option (Bool×Unit)) (s:Unit):Option (Bool×Unit):=
 match eN (()) with
 |none=>none
 |some aj=>
  match eD (aj.1,([99,47,120]:af),()) with
  |none=>none
  |some ar=>
   match eD (aj.1,([97,47,120]:af),()) with
   |none=>none
   |some aM=>
    match eQ (aj.1,([],([],())),()) with
    |none=>none
    |some bF=>
     match eF ((1,(2,(1,()))),()) with
     |none=>none
     |some cT=>
      match eP (aj.1,(0,([],([],(([],([],())),([],([],(0,()))))))),()) with
      |none=>none
      |some fH=>
       match eF (aj.1.2.2.1,()) with
       |none=>none
       |some gQ=>
        let t7:=decide (ar.2.2.2.1=0)
        bif t7 then
         let t8:=decide (aM.2.2.2.1=0)
         bif t8 then
          bif decide (bF.1=0) then
           bif decide (cT.2.1=120) then
            bif decide (fH.2.1=50) then
             match m7 eD eF eP eE eN eQ eO eA (ar.2.1,ar.2.2.1,aM.2.1,aM.2.2.1,(decide (gQ.2.1=0)),aj.1,ar.1,bF.2.1,gQ.1,()) with
             |none=>none
             |some (.inl z9)=>
              some (z9.1,())
             |some (.inr z9)=>
              none
            else
             match m7 eD eF eP eE eN eQ eO eA (ar.2.1,ar.2.2.1,aM.2.1,aM.2.2.1,false,aj.1,ar.1,bF.2.1,gQ.1,()) with
             |none=>none
             |some (.inl z9)=>
              some (z9.1,())
             |some (.inr z9)=>
              none
           else
            match m7 eD eF eP eE eN eQ eO eA (ar.2.1,ar.2.2.1,aM.2.1,aM.2.2.1,false,aj.1,ar.1,bF.2.1,gQ.1,()) with
            |none=>none
            |some (.inl z9)=>
             some (z9.1,())
            |some (.inr z9)=>
             none
          else
           match m7 eD eF eP eE eN eQ eO eA (ar.2.1,ar.2.2.1,aM.2.1,aM.2.2.1,false,aj.1,ar.1,bF.2.1,gQ.1,()) with
           |none=>none
           |some (.inl z9)=>
            some (z9.1,())
           |some (.inr z9)=>
            none
         else
          match m7 eD eF eP eE eN eQ eO eA (ar.2.1,ar.2.2.1,aM.2.1,aM.2.2.1,false,aj.1,ar.1,bF.2.1,gQ.1,()) with
          |none=>none
          |some (.inl z9)=>
           some (z9.1,())
          |some (.inr z9)=>
           none
        else
         match m7 eD eF eP eE eN eQ eO eA (ar.2.1,ar.2.2.1,aM.2.1,aM.2.2.1,false,aj.1,ar.1,bF.2.1,gQ.1,()) with
         |none=>none
         |some (.inl mf)=>
          some (mf.1,())
         |some (.inr mf)=>
          none
def IV (s:Unit):Option (Bool×Unit):=O0 oq KY KX JM JE jc tI Kb s
def UP (s:Int×(List af)×Unit):Option ((Int×(List af)×Unit)⊕(((List af)×Unit)⊕Unit)):=
 bif decide (s.1<20) then
  match pM (s.1,()) with
  |none=>none
  |some aj=>
   match pM (s.1,()) with
   |none=>none
   |some ar=>
    bif decide (List.length ([99,47]:af)+List.length ar.1<=bm) then
     match pM (s.1,()) with
     |none=>none
     |some aM=>
      bif (decide ((2:Int)<=(List.length aM.1:Int))&&decide (((List.length aM.1:Int):Int)<=(List.length aM.1:Int))) then
       let t3:=(List.drop (Int.toNat 2) (List.take (Int.toNat (List.length aM.1:Int)) aM.1))
       bif decide (List.length ([100,47]:af)+List.length t3<=bm) then
        bif (decide ((List.length s.2.1+List.length ([aj.1,(([99,47]:af)++ar.1),(([100,47]:af)++t3)]:List af))*16<=bm)) then
         let t4:List af:=(s.2.1++([aj.1,(([99,47]:af)++ar.1),(([100,47]:af)++t3)]:List af))
         some (.inl ((IntKind.u8.wrap (s.1+1)),t4,()))
        else none
       else none
      else none
    else none
 else
  some (.inr (.inl (s.2.1,())))
def UR:=bM UP
def tF (s:Unit):Option ((List af)×Unit):=
 match UR (0,([[],([97]:af),([97,47,98]:af),([99,47,98,47,1]:af),([100,47,98,47,2,0,1]:af),([122,122]:af)]:List af),()) with
 |none=>none
 |some (.inl z0)=>
  some (z0.1,())
 |some (.inr z0)=>
  none
def Kk (s:Cf):Option (mL×Unit):=
 match oq (s.1,s.2.1,()) with
 |none=>none
 |some aj=>
  some ((aj.1,(aj.2.1,(aj.2.2.1,(aj.2.2.2.1,())))),())
def xN (s:HC):Option (Bool×Unit):=
 bif (!(Op.bytesLess s.2.1 s.1.1)) then
  let t0:=decide ((s.1.2.1:af)=[])
  bif !t0 then
   some ((Op.bytesLess s.2.1 s.1.2.1),())
  else
   some (true,())
 else
  some (false,())
def FI (s:nG):Option (nG⊕((Bool×ak×List ak×Unit)⊕Unit)):=
 bif decide (0<=s.2.2.1)&&decide (s.2.2.1<(List.length s.1:Int)) then
  let t0:=(List.getD s.1 (Int.toNat s.2.2.1) ([],([],(0,()))))
  let t1:=(!decide ((t0.1:af)=s.2.2.2.1.1))
  bif t1 then
   bif decide (0<=s.2.2.1)&&decide (s.2.2.1<(List.length s.1:Int)) then
    let t2:=(List.getD s.1 (Int.toNat s.2.2.1) ([],([],(0,()))))
    bif (decide ((List.length s.2.2.2.2.1+List.length ([t2]:List ak))*40<=bm)) then
     let t3:List ak:=(s.2.2.2.2.1++([t2]:List ak))
     some (.inl (s.1,s.2.1,(i64.wrap (s.2.2.1+1)),s.2.2.2.1,t3,()))
    else none
   else none
  else
   some (.inl (s.1,s.2.1,(i64.wrap (s.2.2.1+1)),s.2.2.2.1,s.2.2.2.2.1,()))
 else none
def sH (s:QZ):Option (nG⊕((Bool×ak×List ak×Unit)⊕Unit)):=
 bif s.2.2.2.1 then
  bif (decide ((List.length s.2.2.2.2.2.1+List.length ([s.2.2.2.2.1]:List ak))*40<=bm)) then
   let t0:List ak:=(s.2.2.2.2.2.1++([s.2.2.2.2.1]:List ak))
   FI (s.1,true,s.2.2.1,s.2.2.2.2.1,t0,())
  else none
 else
  FI (s.1,s.2.1,s.2.2.1,s.2.2.2.2.1,s.2.2.2.2.2.1,())
def tb (s:nG):Option (nG⊕((Bool×ak×List ak×Unit)⊕Unit)):=
 let t0:=(decide (s.2.2.1<((List.length s.1):Int)))
 bif t0 then
  bif !s.2.1 then
   bif decide (0<=s.2.2.1)&&decide (s.2.2.1<(List.length s.1:Int)) then
    let t1:=(List.getD s.1 (Int.toNat s.2.2.1) ([],([],(0,()))))
    let t2:=(Op.bytesLess s.2.2.2.1.1 t1.1||decide ((s.2.2.2.1.1:af)=t1.1))
    sH (s.1,s.2.1,s.2.2.1,t2,s.2.2.2.1,s.2.2.2.2.1,())
   else none
  else
   sH (s.1,s.2.1,s.2.2.1,false,s.2.2.2.1,s.2.2.2.2.1,())
 else
  some (.inr (.inl (s.2.1,s.2.2.2.1,s.2.2.2.2.1,())))
def Ts:=bM tb
def Bf (s:List ak×ak×Unit):Option (List ak×Unit):=
 match Ts (s.1,false,0,s.2.1,[],()) with
 |none=>none
 |some (.inl z0)=>
  bif !z0.1 then
   bif (decide ((List.length z0.2.2.1+List.length ([z0.2.1]:List ak))*40<=bm)) then
    let t1:List ak:=(z0.2.2.1++([z0.2.1]:List ak))
    some (t1,())
   else none
  else
   some (z0.2.2.1,())
 |some (.inr z0)=>
  none
def BC (s:List ah×af×Int×Unit):Option ((List ah×af×Int×Unit)⊕((Bool×Unit)⊕Unit)):=
 let t0:=(decide (s.2.2.1<((List.length s.1):Int)))
 bif t0 then
  bif decide (0<=s.2.2.1)&&decide (s.2.2.1<(List.length s.1:Int)) then
   let t1:=(List.getD s.1 (Int.toNat s.2.2.1) ([],([],())))
   match xN (t1,s.2.1,()) with
   |none=>none
   |some aM=>
    bif aM.1 then
     some (.inr (.inl (true,())))
    else
     some (.inl (s.1,s.2.1,(i64.wrap (s.2.2.1+1)),()))
  else none
 else
  some (.inr (.inr (())))
def WR:=bM BC
def Dk (s:List ah×af×Unit):Option (Bool×Unit):=
 match WR (s.1,s.2.1,0,()) with
 |none=>none
 |some (.inl z0)=>
  some (z0.1,())
 |some (.inr z0)=>
  some (false,())
def Ar (s:Co):Option (Co⊕((List ak×Unit)⊕Unit)):=
 let t0:=(decide (s.2.2.1<((List.length s.1):Int)))
 bif t0 then
  bif decide (0<=s.2.2.1)&&decide (s.2.2.1<(List.length s.1:Int)) then
   let t1:=(List.getD s.1 (Int.toNat s.2.2.1) ([],([],(0,()))))
   match Dk (s.2.1,t1.1,()) with
   |none=>none
   |some aM=>
    bif !aM.1 then
     bif decide (0<=s.2.2.1)&&decide (s.2.2.1<(List.length s.1:Int)) then
      let t3:=(List.getD s.1 (Int.toNat s.2.2.1) ([],([],(0,()))))
      bif (decide ((List.length s.2.2.2.1+List.length ([t3]:List ak))*40<=bm)) then
       let t4:List ak:=(s.2.2.2.1++([t3]:List ak))
       some (.inl (s.1,s.2.1,(i64.wrap (s.2.2.1+1)),t4,()))
      else none
     else none
    else
     some (.inl (s.1,s.2.1,(i64.wrap (s.2.2.1+1)),s.2.2.2.1,()))
  else none
 else
  some (.inr (.inl (s.2.2.2.1,())))
def RY:=bM Ar
def nl (s:uu):Option (List ak×Unit):=
 match RY (s.1,s.2.1,0,[],()) with
 |none=>none
 |some (.inl z0)=>
  some (z0.1,())
 |some (.inr z0)=>
  none
def Aw (s:Co):Option (Co⊕((List ak×Unit)⊕Unit)):=
 let t0:=(decide (s.2.2.1<((List.length s.1):Int)))
 bif t0 then
  bif decide (0<=s.2.2.1)&&decide (s.2.2.1<(List.length s.1:Int)) then
   let t1:=(List.getD s.1 (Int.toNat s.2.2.1) ([],([],(0,()))))
   match Dk (s.2.1,t1.1,()) with
   |none=>none
   |some aM=>
    bif aM.1 then
     bif decide (0<=s.2.2.1)&&decide (s.2.2.1<(List.length s.1:Int)) then
      let t3:=(List.getD s.1 (Int.toNat s.2.2.1) ([],([],(0,()))))
      bif (decide ((List.length s.2.2.2.1+List.length ([t3]:List ak))*40<=bm)) then
       let t4:List ak:=(s.2.2.2.1++([t3]:List ak))
       some (.inl (s.1,s.2.1,(i64.wrap (s.2.2.1+1)),t4,()))
      else none
     else none
    else
     some (.inl (s.1,s.2.1,(i64.wrap (s.2.2.1+1)),s.2.2.2.1,()))
  else none
 else
  some (.inr (.inl (s.2.2.2.1,())))
def Tt:=bM Aw
def G8 (s:uu):Option (List ak×Unit):=
 match Tt (s.1,s.2.1,0,[],()) with
 |none=>none
 |some (.inl z0)=>
  some (z0.1,())
 |some (.inr z0)=>
  none
def JA (s:af×af×af×Unit):Option um:=
 match q4 (s.1,s.2.1,()) with
 |none=>none
 |some aj=>
  bif !aj.1 then
   some ([],false,())
  else
   bif (decide (0<=((List.length s.2.1):Int))&&decide ((((List.length s.2.1):Int):Int)<=(List.length s.1:Int))&&decide (((List.length s.1:Int):Int)<=(List.length s.1:Int))) then
    let t1:=(List.drop (Int.toNat ((List.length s.2.1):Int)) (List.take (Int.toNat (List.length s.1:Int)) s.1))
    bif decide (List.length s.2.2.1+List.length t1<=bm) then
     some ((s.2.2.1++t1),true,())
    else none
   else none
def Gw (s:Int×a6×List ak×Unit):Option ((Int×a6×List ak×Unit)⊕((List ak×Unit)⊕Unit)):=
 let t0:=(decide (s.1<((List.length s.2.2.1):Int)))
 bif t0 then
  bif decide (0<=s.1)&&decide (s.1<(List.length s.2.2.1:Int)) then
   let t1:=(List.getD s.2.2.1 (Int.toNat s.1) ([],([],(0,()))))
   match xN (s.2.1.2.2.2.1,t1.1,()) with
   |none=>none
   |some aM=>
    bif aM.1 then
     bif decide (0<=s.1)&&decide (s.1<(List.length s.2.2.1:Int)) then
      let t3:=(List.set s.2.2.1 (Int.toNat s.1) ((List.getD s.2.2.1 (Int.toNat s.1) ([],([],(0,())))).1,((List.getD s.2.2.1 (Int.toNat s.1) ([],([],(0,())))).2.1,(s.2.1.2.2.2.2.2.2.1,(List.getD s.2.2.1 (Int.toNat s.1) ([],([],(0,())))).2.2.2))))
      some (.inl ((i64.wrap (s.1+1)),s.2.1,t3,()))
     else none
    else
     some (.inl ((i64.wrap (s.1+1)),s.2.1,s.2.2.1,()))
  else none
 else
  some (.inr (.inl (s.2.2.1,())))
def TU:=bM Gw
def Gx (s:Int×a6×List ak×List ak×Unit):Option ((Int×a6×List ak×List ak×Unit)⊕((List ak×Unit)⊕Unit)):=
 let t0:=(decide (s.1<((List.length s.2.2.2.1):Int)))
 bif t0 then
  bif decide (0<=s.1)&&decide (s.1<(List.length s.2.2.2.1:Int)) then
   let t1:=(List.getD s.2.2.2.1 (Int.toNat s.1) ([],([],(0,()))))
   match JA (t1.1,s.2.1.2.2.2.2.1,s.2.1.2.2.2.2.2.1,()) with
   |none=>none
   |some aM=>
    bif decide (0<=s.1)&&decide (s.1<(List.length s.2.2.2.1:Int)) then
     let t3:=(List.getD s.2.2.2.1 (Int.toNat s.1) ([],([],(0,()))))
     bif decide (0<=s.1)&&decide (s.1<(List.length s.2.2.2.1:Int)) then
      let t4:=(List.getD s.2.2.2.1 (Int.toNat s.1) ([],([],(0,()))))
      match Bf (s.2.2.1,(aM.1,(t3.2.1,(t4.2.2.1,()))),()) with
      |none=>none
      |some fH=>
       some (.inl ((i64.wrap (s.1+1)),s.2.1,fH.1,s.2.2.2.1,()))
     else none
    else none
  else none
 else
  some (.inr (.inl (s.2.2.1,())))
def HU:=bM Gx
def rb (s:List ak×a6×Unit):Option (List ak×Unit):=
 bif decide (s.2.1.1=1) then
  match Bf (s.1,(s.2.1.2.1,(s.2.1.2.2.1,(s.2.1.2.2.2.2.2.2.1,()))),()) with
  |none=>none
  |some aj=>
   some (aj.1,())
 else
  bif decide (s.2.1.1=2) then
   match mK (s.2.1.2.1,()) with
   |none=>none
   |some aj=>
    match nl (s.1,([aj.1]:List ah),()) with
    |none=>none
    |some ar=>
     some (ar.1,())
  else
   bif decide (s.2.1.1=3) then
    match nl (s.1,([s.2.1.2.2.2.1]:List ah),()) with
    |none=>none
    |some aj=>
     some (aj.1,())
   else
    bif decide (s.2.1.1=6) then
     bif (decide ((List.length ([]:List ak)+List.length s.1)*40<=bm)) then
      let t0:List ak:=([]++s.1)
      match TU (0,s.2.1,t0,()) with
      |none=>none
      |some (.inl aH)=>
       some (aH.1,())
      |some (.inr aH)=>
       none
     else none
    else
     match l8 (s.2.1.2.2.2.2.2.1,()) with
     |none=>none
     |some aj=>
      match nl (s.1,([aj.1]:List ah),()) with
      |none=>none
      |some ar=>
       match l8 (s.2.1.2.2.2.2.1,()) with
       |none=>none
       |some aM=>
        match G8 (s.1,([aM.1]:List ah),()) with
        |none=>none
        |some bF=>
         bif decide (s.2.1.1=4) then
          match l8 (s.2.1.2.2.2.2.1,()) with
          |none=>none
          |some cT=>
           match nl (ar.1,([cT.1]:List ah),()) with
           |none=>none
           |some fH=>
            match HU (0,s.2.1,fH.1,bF.1,()) with
            |none=>none
            |some (.inl jq)=>
             some (jq.1,())
            |some (.inr jq)=>
             none
         else
          match HU (0,s.2.1,ar.1,bF.1,()) with
          |none=>none
          |some (.inl z4)=>
           some (z4.1,())
          |some (.inr z4)=>
           none
def G7 (s:List ak×List a6×Int×Unit):Option ((List ak×List a6×Int×Unit)⊕((List ak×Unit)⊕Unit)):=
 let t0:=(decide (s.2.2.1<((List.length s.2.1):Int)))
 bif t0 then
  bif decide (0<=s.2.2.1)&&decide (s.2.2.1<(List.length s.2.1:Int)) then
   let t1:=(List.getD s.2.1 (Int.toNat s.2.2.1) (0,([],([],(([],([],())),([],([],(0,()))))))))
   match rb (s.1,t1,()) with
   |none=>none
   |some aM=>
    some (.inl (aM.1,s.2.1,(i64.wrap (s.2.2.1+1)),()))
  else none
 else
  some (.inr (.inl (s.1,())))
def V7:=bM G7
def Kq (s:List ak×List a6×Unit):Option (List ak×Unit):=
 match V7 (s.1,s.2.1,0,()) with
 |none=>none
 |some (.inl z0)=>
  some (z0.1,())
 |some (.inr z0)=>
  none
def AG (s:Cg):Option (Cg⊕((Bool×Unit)⊕Unit)):=
 let t0:=(decide (s.2.1<((List.length s.1):Int)))
 bif t0 then
  bif (decide (0<=(i64.wrap (s.2.1-1)))&&decide (((i64.wrap (s.2.1-1)):Int)<(List.length s.1:Int))) then
   let t1:=(List.getD s.1 (Int.toNat (i64.wrap (s.2.1-1))) ([],([],(0,()))))
   bif decide (0<=s.2.1)&&decide (s.2.1<(List.length s.1:Int)) then
    let t2:=(List.getD s.1 (Int.toNat s.2.1) ([],([],(0,()))))
    bif (!(Op.bytesLess t1.1 t2.1)) then
     some (.inr (.inl (false,())))
    else
     some (.inl (s.1,(i64.wrap (s.2.1+1)),()))
   else none
  else none
 else
  some (.inr (.inr (())))
def HT:=bM AG
def Cz (s:List ak×Unit):Option (Bool×Unit):=
 match HT (s.1,1,()) with
 |none=>none
 |some (.inl z0)=>
  some (z0.1,())
 |some (.inr z0)=>
  some (true,())
def Gb (AN:er->Option (List ak×Unit)) (s:Hx):Option (Hx⊕((bq×List ak×Unit)⊕Unit)):=
 let t0:=(decide (s.1<((List.length s.2.2.1.2.2.1):Int)))
 bif t0 then
  bif decide (0<=s.1)&&decide (s.1<(List.length s.2.2.1.2.2.1:Int)) then
   let t1:=(List.getD s.2.2.1.2.2.1 (Int.toNat s.1) 0)
   match AN (s.2.1,t1,()) with
   |none=>none
   |some aM=>
    bif decide ((List.length s.2.2.2.1+List.length aM.1)*40<=bm) then
     some (.inl ((i64.wrap (s.1+1)),s.2.1,s.2.2.1,(s.2.2.2.1++aM.1),()))
    else none
  else none
 else
  some (.inr (.inl (s.2.2.1,s.2.2.2.1,())))
def RZ (AN:er->Option (List ak×Unit)) (s:Hx):Option ((bq×List ak×Unit)⊕Unit):=bM (Gb AN) s
def md (AN:er->Option (List ak×Unit)) (s:er):Option (List ak×Unit):=
 match xc (s.1,s.2.1,()) with
 |none=>none
 |some aj=>
  let t1:=(decide ((((List.length aj.1.2.2.1):Int):Int)=0))
  bif t1 then
   some (aj.1.1,())
  else
   match RZ AN (0,s.1,aj.1,[],()) with
   |none=>none
   |some (.inl z2)=>
    match Kq (z2.2.1,z2.1.2.2.2.2.1,()) with
    |none=>none
    |some bF=>
     some (bF.1,())
   |some (.inr z2)=>
    none
def Ao:Nat->er->Option (List ak×Unit)
 |0,_=>none
 |n+1,s=>md (Ao n) s
def U4 (s:er):Option (List ak×Unit):=Ao jV s
def XX (s:cy×Unit):Option (List ak×Unit):=
 match U4 (s.1.1,s.1.2.1,()) with
 |none=>none
 |some aj=>
  some (aj.1,())
def o3 (s:Bool×Bool×List ak×mL×Unit):Option (Bool×Unit):=
 bif s.2.1 then
  some (false,())
 else
  bif s.2.2.2.1.2.1 then
   bif s.1 then
    match tI (s.2.2.1,([s.2.2.2.1.1]:List ak),()) with
    |none=>none
    |some aj=>
     some (aj.1,())
   else
    some (false,())
  else
   bif s.1 then
    let t0:=(decide ((((List.length s.2.2.1):Int):Int)=0))
    some (t0,())
   else
    some (false,())
def wj (s:eg×jJ×Unit):Option (Bool×Unit):=
 match IV (()) with
 |none=>none
 |some aj=>
  match CO (s.1,()) with
  |none=>none
  |some ar=>
   match tF (()) with
   |none=>none
   |some aM=>
    let t3:=(i64.wrap (((List.length aM.1):Int)-1))
    bif decide (t3=0) then
     none
    else
     let t4:=(i64.wrap (1+(Int.tmod (i64.wrap s.2.1.1) t3)))
     bif decide (0<=t4)&&decide (t4<(List.length aM.1:Int)) then
      let t5:=(List.getD aM.1 (Int.toNat t4) [])
      match jc (ar.1,([],(t5,())),()) with
      |none=>none
      |some gQ=>
       match jc (ar.1,(t5,([],())),()) with
       |none=>none
       |some AL=>
        match jc (ar.1,([],([],())),()) with
        |none=>none
        |some rm=>
         bif decide (List.length t5+List.length ([0]:af)<=bm) then
          match jc (ar.1,(t5,((t5++([0]:af)),())),()) with
          |none=>none
          |some l6=>
           match Kk (ar.1,t5,()) with
           |none=>none
           |some l5=>
            bif (!(!decide (gQ.1=0))) then
             bif (!(!decide (AL.1=0))) then
              bif (!(!decide (rm.1=0))) then
               bif (!(!decide (l6.1=0))) then
                let t11:=(!decide (l5.1.2.2.2.1=0))
                bif !t11 then
                 match Cz (rm.2.1,()) with
                 |none=>none
                 |some atd=>
                  bif (!(!atd.1)) then
                   match BG (gQ.2.1,AL.2.1,()) with
                   |none=>none
                   |some ate=>
                    match tI (ate.1,rm.2.1,()) with
                    |none=>none
                    |some atf=>
                     bif (!(!atf.1)) then
                      let t15:=(i64.wrap (((List.length gQ.2.1):Int)+((List.length AL.2.1):Int)))
                      let t16:=(!decide (t15=((List.length rm.2.1):Int)))
                      o3 (aj.1,t16,l6.2.1,l5.1,())
                     else
                      o3 (aj.1,true,l6.2.1,l5.1,())
                  else
                   o3 (aj.1,true,l6.2.1,l5.1,())
                else
                 o3 (aj.1,true,l6.2.1,l5.1,())
               else
                o3 (aj.1,true,l6.2.1,l5.1,())
              else
               o3 (aj.1,true,l6.2.1,l5.1,())
             else
              o3 (aj.1,true,l6.2.1,l5.1,())
            else
             o3 (aj.1,true,l6.2.1,l5.1,())
         else none
     else none
end D
