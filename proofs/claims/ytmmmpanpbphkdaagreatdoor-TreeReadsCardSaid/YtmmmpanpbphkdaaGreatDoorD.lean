import Derived.Test.YtmmmpanpbphkdaaGreatDoorDa
set_option linter.unusedVariables false
open Go Go.X
open Go.IntKind (i64)
namespace D
def wa (s:ly):Option (Int×Unit):=
 bif (decide (0<=(IntKind.u8.wrap s.1))&&decide (((IntKind.u8.wrap s.1):Int)<(List.length ([0,1,2,2,3,3,3,3,4,4,4,4,4,4,4,4,5,5,5,5,5,5,5,5,5,5,5,5,5,5,5,5,6,6,6,6,6,6,6,6,6,6,6,6,6,6,6,6,6,6,6,6,6,6,6,6,6,6,6,6,6,6,6,6,7,7,7,7,7,7,7,7,7,7,7,7,7,7,7,7,7,7,7,7,7,7,7,7,7,7,7,7,7,7,7,7,7,7,7,7,7,7,7,7,7,7,7,7,7,7,7,7,7,7,7,7,7,7,7,7,7,7,7,7,7,7,7,7,8,8,8,8,8,8,8,8,8,8,8,8,8,8,8,8,8,8,8,8,8,8,8,8,8,8,8,8,8,8,8,8,8,8,8,8,8,8,8,8,8,8,8,8,8,8,8,8,8,8,8,8,8,8,8,8,8,8,8,8,8,8,8,8,8,8,8,8,8,8,8,8,8,8,8,8,8,8,8,8,8,8,8,8,8,8,8,8,8,8,8,8,8,8,8,8,8,8,8,8,8,8,8,8,8,8,8,8,8,8,8,8,8,8,8,8,8,8,8,8,8,8,8,8,8,8,8,8]:af):Int))) then
  let t0:Int:=((List.getD ([0,1,2,2,3,3,3,3,4,4,4,4,4,4,4,4,5,5,5,5,5,5,5,5,5,5,5,5,5,5,5,5,6,6,6,6,6,6,6,6,6,6,6,6,6,6,6,6,6,6,6,6,6,6,6,6,6,6,6,6,6,6,6,6,7,7,7,7,7,7,7,7,7,7,7,7,7,7,7,7,7,7,7,7,7,7,7,7,7,7,7,7,7,7,7,7,7,7,7,7,7,7,7,7,7,7,7,7,7,7,7,7,7,7,7,7,7,7,7,7,7,7,7,7,7,7,7,7,8,8,8,8,8,8,8,8,8,8,8,8,8,8,8,8,8,8,8,8,8,8,8,8,8,8,8,8,8,8,8,8,8,8,8,8,8,8,8,8,8,8,8,8,8,8,8,8,8,8,8,8,8,8,8,8,8,8,8,8,8,8,8,8,8,8,8,8,8,8,8,8,8,8,8,8,8,8,8,8,8,8,8,8,8,8,8,8,8,8,8,8,8,8,8,8,8,8,8,8,8,8,8,8,8,8,8,8,8,8,8,8,8,8,8,8,8,8,8,8,8,8,8,8,8,8,8,8]:af) (Int.toNat (IntKind.u8.wrap s.1)) 0).toNat:Int)
  let t1:=i64.wrap (s.2.1+(i64.wrap t0))
  some (t1,())
 else none
def Gd (s:ly):Option (Int×Unit):=
 bif decide (s.1>=256) then
  let t0:Int:=(Int.fdiv s.1 (2^(min (Int.toNat 8) IntKind.u64.bits)))
  wa (t0,(i64.wrap (s.2.1+8)),())
 else
  wa (s.1,s.2.1,())
def v8 (s:ly):Option (Int×Unit):=
 bif decide (s.1>=65536) then
  let t0:Int:=(Int.fdiv s.1 (2^(min (Int.toNat 16) IntKind.u64.bits)))
  Gd (t0,(i64.wrap (s.2.1+16)),())
 else
  Gd (s.1,s.2.1,())
def Qp (s:Int×Unit):Option (Int×Unit):=
 let t0:=decide (s.1>=4294967296)
 bif t0 then
  let t1:Int:=(Int.fdiv s.1 (2^(min (Int.toNat 32) IntKind.u64.bits)))
  v8 (t1,32,())
 else
  v8 (s.1,0,())
def wW (s:Int×Unit):Option (Int×Unit):=
 match Qp (s.1,()) with
 |none=>none
 |some aj=>
  some (aj.1,())
def Gc (s:ah):Option (Int×Unit):=
 match tn (s.1,()) with
 |none=>none
 |some aj=>
  match tn (s.2.1,()) with
  |none=>none
  |some au=>
   bif aj.1 then
    bif au.1 then
     some (0,())
    else
     some ((-1:Int),())
   else
    bif au.1 then
     some (1,())
    else
     bif (Op.bytesLess s.1 s.2.1) then
      some ((-1:Int),())
     else
      let t2:=(!(Op.bytesLess s.1 s.2.1||decide ((s.1:af)=s.2.1)))
      bif t2 then
       some (1,())
      else
       some (0,())
def jJ (s:sa):Option (Int×Unit):=
 match Gc (s.1.1,s.2.1.1,()) with
 |none=>none
 |some aj=>
  some (aj.1,())
def zc (s:RU):Option (kp⊕(dW⊕Unit)):=
 bif s.2.2.2.2.1 then
  let t0:=i64.wrap (s.2.2.2.1-1)
  let t1:=i64.wrap (s.2.2.2.1-1)
  bif decide (0<=t1)&&decide (t1<(List.length s.2.2.2.2.2.1:Int)) then
   let t2:=(List.getD s.2.2.2.2.2.1 (Int.toNat t1) ([],([],())))
   bif decide (0<=s.2.2.2.1)&&decide (s.2.2.2.1<(List.length s.2.2.2.2.2.1:Int)) then
    let t3:=(List.getD s.2.2.2.2.2.1 (Int.toNat s.2.2.2.1) ([],([],())))
    bif decide (0<=s.2.2.2.1)&&decide (s.2.2.2.1<(List.length s.2.2.2.2.2.1:Int)) then
     let t4:=(List.set s.2.2.2.2.2.1 (Int.toNat s.2.2.2.1) t2)
     bif decide (0<=t0)&&decide (t0<(List.length t4:Int)) then
      let t5:=i64.wrap (s.2.2.2.1-1)
      some (.inl (s.1,s.2.1,s.2.2.1,t5,(List.set t4 (Int.toNat t0) t3),()))
     else none
    else none
   else none
  else none
 else
  some (.inr (.inl (s.1,s.2.1,s.2.2.1,s.2.2.2.2.2.1,())))
def vb (s:kp):Option (kp⊕(dW⊕Unit)):=
 bif decide (s.2.2.2.1>s.1) then
  bif decide (0<=s.2.2.2.1)&&decide (s.2.2.2.1<(List.length s.2.2.2.2.1:Int)) then
   let t0:=(List.getD s.2.2.2.2.1 (Int.toNat s.2.2.2.1) ([],([],())))
   let t1:=i64.wrap (s.2.2.2.1-1)
   bif decide (0<=t1)&&decide (t1<(List.length s.2.2.2.2.1:Int)) then
    let t2:=(List.getD s.2.2.2.2.1 (Int.toNat t1) ([],([],())))
    match jJ (t0,t2,()) with
    |none=>none
    |some bF=>
     zc (s.1,s.2.1,s.2.2.1,s.2.2.2.1,(decide (bF.1<0)),s.2.2.2.2.1,())
   else none
  else none
 else
  zc (s.1,s.2.1,s.2.2.1,s.2.2.2.1,false,s.2.2.2.2.1,())
def E0:=bN vb
def zA (s:dW):Option (dW⊕((List ah×Unit)⊕Unit)):=
 bif decide (s.2.2.1<s.2.1) then
  match E0 (s.1,s.2.1,s.2.2.1,s.2.2.1,s.2.2.2.1,()) with
  |none=>none
  |some (.inl z0)=>
   let t1:=i64.wrap (z0.2.2.1+1)
   some (.inl (z0.1,z0.2.1,t1,z0.2.2.2.1,()))
  |some (.inr z0)=>
   none
 else
  some (.inr (.inl (s.2.2.2.1,())))
def M8:=bN zA
def EL (s:kq):Option (List ah×Unit):=
 match M8 (s.1,s.2.1,(i64.wrap (s.1+1)),s.2.2.1,()) with
 |none=>none
 |some (.inl z0)=>
  some (z0.1,())
 |some (.inr z0)=>
  none
def zp (s:kp):Option (dW⊕((List ah×Unit)⊕(List ah×Unit))):=
 bif (decide (0<=(i64.wrap (s.2.1+s.2.2.1)))&&decide (((i64.wrap (s.2.1+s.2.2.1)):Int)<(List.length s.2.2.2.2.1:Int))) then
  let t0:=(List.getD s.2.2.2.2.1 (Int.toNat (i64.wrap (s.2.1+s.2.2.1))) ([],([],())))
  bif (decide (0<=(i64.wrap (s.2.1+s.2.2.2.1)))&&decide (((i64.wrap (s.2.1+s.2.2.2.1)):Int)<(List.length s.2.2.2.2.1:Int))) then
   let t1:=(List.getD s.2.2.2.2.1 (Int.toNat (i64.wrap (s.2.1+s.2.2.2.1))) ([],([],())))
   match jJ (t0,t1,()) with
   |none=>none
   |some aL=>
    bif (!(decide (aL.1<0))) then
     some (.inr (.inr (s.2.2.2.2.1,())))
    else
     bif (decide (0<=(i64.wrap (s.2.1+s.2.2.2.1)))&&decide (((i64.wrap (s.2.1+s.2.2.2.1)):Int)<(List.length s.2.2.2.2.1:Int))) then
      let t3:=(List.getD s.2.2.2.2.1 (Int.toNat (i64.wrap (s.2.1+s.2.2.2.1))) ([],([],())))
      bif (decide (0<=(i64.wrap (s.2.1+s.2.2.1)))&&decide (((i64.wrap (s.2.1+s.2.2.1)):Int)<(List.length s.2.2.2.2.1:Int))) then
       let t4:=(List.getD s.2.2.2.2.1 (Int.toNat (i64.wrap (s.2.1+s.2.2.1))) ([],([],())))
       bif (decide (0<=(i64.wrap (s.2.1+s.2.2.1)))&&decide (((i64.wrap (s.2.1+s.2.2.1)):Int)<(List.length s.2.2.2.2.1:Int))) then
        let t5:=(List.set s.2.2.2.2.1 (Int.toNat (i64.wrap (s.2.1+s.2.2.1))) t3)
        bif (decide (0<=(i64.wrap (s.2.1+s.2.2.2.1)))&&decide (((i64.wrap (s.2.1+s.2.2.2.1)):Int)<(List.length t5:Int))) then
         let t6:=(List.set t5 (Int.toNat (i64.wrap (s.2.1+s.2.2.2.1))) t4)
         some (.inl (s.1,s.2.1,s.2.2.2.1,t6,()))
        else none
       else none
      else none
     else none
  else none
 else none
def zq (s:RU):Option (dW⊕((List ah×Unit)⊕(List ah×Unit))):=
 bif s.2.2.2.2.1 then
  let t0:=i64.wrap (s.2.2.2.1+1)
  zp (s.1,s.2.1,s.2.2.1,t0,s.2.2.2.2.2.1,())
 else
  zp (s.1,s.2.1,s.2.2.1,s.2.2.2.1,s.2.2.2.2.2.1,())
def sL (s:dW):Option (dW⊕((List ah×Unit)⊕(List ah×Unit))):=
 let t0:=(i64.wrap ((i64.wrap (2*s.2.2.1))+1))
 bif decide (t0>=s.1) then
  some (.inr (.inl (s.2.2.2.1,())))
 else
  let t1:=(decide (((i64.wrap (t0+1)):Int)<s.1))
  bif t1 then
   bif (decide (0<=(i64.wrap (s.2.1+t0)))&&decide (((i64.wrap (s.2.1+t0)):Int)<(List.length s.2.2.2.1:Int))) then
    let t2:=(List.getD s.2.2.2.1 (Int.toNat (i64.wrap (s.2.1+t0))) ([],([],())))
    let t3:=(i64.wrap ((i64.wrap (s.2.1+t0))+1))
    bif decide (0<=t3)&&decide (t3<(List.length s.2.2.2.1:Int)) then
     let t4:=(List.getD s.2.2.2.1 (Int.toNat t3) ([],([],())))
     match jJ (t2,t4,()) with
     |none=>none
     |some fv=>
      zq (s.1,s.2.1,s.2.2.1,t0,(decide (fv.1<0)),s.2.2.2.1,())
    else none
   else none
  else
   zq (s.1,s.2.1,s.2.2.1,t0,false,s.2.2.2.1,())
def OP:=bN sL
def zF (s:dW):Option (List ah×Unit):=
 match OP (s.2.1,s.2.2.1,s.1,s.2.2.2.1,()) with
 |none=>none
 |some (.inl z0)=>
  some (z0.1,())
 |some (.inr z0)=>
  some (z0.1,())
def zw (s:kp):Option (kp⊕(dW⊕Unit)):=
 bif decide (s.2.2.2.1>=0) then
  match zF (s.2.2.2.1,s.2.2.1,s.1,s.2.2.2.2.1,()) with
  |none=>none
  |some aj=>
   let t1:=i64.wrap (s.2.2.2.1-1)
   some (.inl (s.1,s.2.1,s.2.2.1,t1,aj.1,()))
 else
  some (.inr (.inl (s.1,s.2.1,s.2.2.1,s.2.2.2.2.1,())))
def NC:=bN zw
def zx (s:dW):Option (dW⊕((List ah×Unit)⊕Unit)):=
 bif decide (s.2.2.1>=0) then
  bif (decide (0<=(i64.wrap (s.1+s.2.2.1)))&&decide (((i64.wrap (s.1+s.2.2.1)):Int)<(List.length s.2.2.2.1:Int))) then
   let t0:=(List.getD s.2.2.2.1 (Int.toNat (i64.wrap (s.1+s.2.2.1))) ([],([],())))
   bif decide (0<=s.1)&&decide (s.1<(List.length s.2.2.2.1:Int)) then
    let t1:=(List.getD s.2.2.2.1 (Int.toNat s.1) ([],([],())))
    bif decide (0<=s.1)&&decide (s.1<(List.length s.2.2.2.1:Int)) then
     bif (decide (0<=(i64.wrap (s.1+s.2.2.1)))&&decide (((i64.wrap (s.1+s.2.2.1)):Int)<(List.length (List.set s.2.2.2.1 (Int.toNat s.1) t0):Int))) then
      let t2:=(List.set (List.set s.2.2.2.1 (Int.toNat s.1) t0) (Int.toNat (i64.wrap (s.1+s.2.2.1))) t1)
      match zF (s.2.1,s.2.2.1,s.1,t2,()) with
      |none=>none
      |some bF=>
       some (.inl (s.1,s.2.1,(i64.wrap (s.2.2.1-1)),bF.1,()))
     else none
    else none
   else none
  else none
 else
  some (.inr (.inl (s.2.2.2.1,())))
def OO:=bN zx
def Fg (s:kq):Option (List ah×Unit):=
 let t0:=(i64.wrap ((i64.wrap (s.2.1-s.1))-1))
 let t1:=i64.wrap (Int.tdiv t0 2)
 match NC (s.1,0,(i64.wrap (s.2.1-s.1)),t1,s.2.2.1,()) with
 |none=>none
 |some (.inl z2)=>
  let t3:=i64.wrap (z2.2.2.1-1)
  match OO (z2.1,z2.2.1,t3,z2.2.2.2.1,()) with
  |none=>none
  |some (.inl z4)=>
   some (z4.1,())
  |some (.inr z4)=>
   none
 |some (.inr z2)=>
  none
def vj (s:Int×Int×List ah×Int×Unit):Option (Int×Int×List ah×Int×Unit):=
 bif decide (0<=s.2.1)&&decide (s.2.1<(List.length s.2.2.1:Int)) then
  let t0:=(List.getD s.2.2.1 (Int.toNat s.2.1) ([],([],())))
  bif decide (0<=s.1)&&decide (s.1<(List.length s.2.2.1:Int)) then
   let t1:=(List.getD s.2.2.1 (Int.toNat s.1) ([],([],())))
   match jJ (t0,t1,()) with
   |none=>none
   |some aL=>
    bif decide (aL.1<0) then
     let t3:=i64.wrap (s.2.2.2.1+1)
     some (s.2.1,s.1,s.2.2.1,t3,())
    else
     some (s.1,s.2.1,s.2.2.1,s.2.2.2.1,())
  else none
 else none
def zD (s:Int×Int×Int×List ah×Int×Unit):Option HW:=
 match vj (s.1,s.2.1,s.2.2.2.1,s.2.2.2.2.1,()) with
 |none=>none
 |some aj=>
  match vj (aj.2.1,s.2.2.1,aj.2.2.1,aj.2.2.2.1,()) with
  |none=>none
  |some au=>
   match vj (aj.1,au.1,au.2.2.1,au.2.2.2.1,()) with
   |none=>none
   |some aL=>
    some (aL.2.1,aL.2.2.1,aL.2.2.2.1,())
def vf (s:HW):Option HW:=
 match zD ((i64.wrap (s.1-1)),s.1,(i64.wrap (s.1+1)),s.2.1,s.2.2.1,()) with
 |none=>none
 |some aj=>
  some (aj.1,aj.2.1,aj.2.2.1,())
def E3 (s:Int×Int×Int×List ah×Int×Unit):Option kq:=
 match zD (s.1,s.2.1,s.2.2.1,s.2.2.2.1,s.2.2.2.2.1,()) with
 |none=>none
 |some aj=>
  bif decide (aj.2.2.1=0) then
   some (aj.1,1,aj.2.1,())
  else
   bif decide (aj.2.2.1=12) then
    some (aj.1,2,aj.2.1,())
   else
    some (aj.1,0,aj.2.1,())
def EY (s:kq):Option kq:=
 let t0:=(i64.wrap (Int.tdiv (i64.wrap (s.2.1-s.1)) 4))
 let t1:=(i64.wrap (s.1+(i64.wrap (t0*1))))
 let t2:=(i64.wrap (Int.tdiv (i64.wrap (s.2.1-s.1)) 4))
 let t3:=(i64.wrap (s.1+(i64.wrap (t2*2))))
 let t4:=(i64.wrap (Int.tdiv (i64.wrap (s.2.1-s.1)) 4))
 let t5:=(i64.wrap (s.1+(i64.wrap (t4*3))))
 let t6:=(decide (((i64.wrap (s.2.1-s.1)):Int)>=8))
 bif t6 then
  let t7:=(decide (((i64.wrap (s.2.1-s.1)):Int)>=50))
  bif t7 then
   match vf (t1,s.2.2.1,0,()) with
   |none=>none
   |some Pt=>
    match vf (t3,Pt.2.1,Pt.2.2.1,()) with
    |none=>none
    |some Pu=>
     match vf (t5,Pu.2.1,Pu.2.2.1,()) with
     |none=>none
     |some Ps=>
      E3 (Pt.1,Pu.1,Ps.1,Ps.2.1,Ps.2.2.1,())
  else
   E3 (t1,t3,t5,s.2.2.1,0,())
 else
  bif decide ((0:Int)=0) then
   some (t3,1,s.2.2.1,())
  else
   let t7:=decide ((0:Int)=12)
   bif t7 then
    some (t3,2,s.2.2.1,())
   else
    some (t3,0,s.2.2.1,())
def zC (s:kq):Option (kq⊕((List ah×Unit)⊕Unit)):=
 bif decide (s.1<s.2.1) then
  bif decide (0<=s.2.1)&&decide (s.2.1<(List.length s.2.2.1:Int)) then
   let t0:=(List.getD s.2.2.1 (Int.toNat s.2.1) ([],([],())))
   bif decide (0<=s.1)&&decide (s.1<(List.length s.2.2.1:Int)) then
    let t1:=(List.getD s.2.2.1 (Int.toNat s.1) ([],([],())))
    bif decide (0<=s.1)&&decide (s.1<(List.length s.2.2.1:Int)) then
     bif (decide (0<=s.2.1)&&decide (s.2.1<(List.length (List.set s.2.2.1 (Int.toNat s.1) t0):Int))) then
      let t2:=(List.set (List.set s.2.2.1 (Int.toNat s.1) t0) (Int.toNat s.2.1) t1)
      some (.inl ((i64.wrap (s.1+1)),(i64.wrap (s.2.1-1)),t2,()))
     else none
    else none
   else none
  else none
 else
  some (.inr (.inl (s.2.2.1,())))
def MX:=bN zC
def zv (s:kq):Option (List ah×Unit):=
 match MX (s.1,(i64.wrap (s.2.1-1)),s.2.2.1,()) with
 |none=>none
 |some (.inl z0)=>
  some (z0.1,())
 |some (.inr z0)=>
  none
def zj (s:kp):Option (kp⊕(kp⊕Unit)):=
 bif decide (s.2.2.1<s.2.1) then
  bif decide (0<=s.2.2.1)&&decide (s.2.2.1<(List.length s.2.2.2.2.1:Int)) then
   let t0:=(List.getD s.2.2.2.2.1 (Int.toNat s.2.2.1) ([],([],())))
   bif (decide (0<=(i64.wrap (s.2.2.1-1)))&&decide (((i64.wrap (s.2.2.1-1)):Int)<(List.length s.2.2.2.2.1:Int))) then
    let t1:=(List.getD s.2.2.2.2.1 (Int.toNat (i64.wrap (s.2.2.1-1))) ([],([],())))
    match jJ (t0,t1,()) with
    |none=>none
    |some aL=>
     bif (!(decide (aL.1<0))) then
      some (.inl (s.1,s.2.1,(i64.wrap (s.2.2.1+1)),s.2.2.2.1,s.2.2.2.2.1,()))
     else
      some (.inr (.inl (s.1,s.2.1,s.2.2.1,s.2.2.2.1,s.2.2.2.2.1,())))
   else none
  else none
 else
  some (.inr (.inl (s.1,s.2.1,s.2.2.1,s.2.2.2.1,s.2.2.2.2.1,())))
def EH:=bN zj
def zk (s:uz):Option (uz⊕(kp⊕Unit)):=
 let t0:=decide (s.2.2.2.2.1>=1)
 bif t0 then
  bif decide (0<=s.2.2.2.2.1)&&decide (s.2.2.2.2.1<(List.length s.2.2.2.2.2.1:Int)) then
   let t1:=(List.getD s.2.2.2.2.2.1 (Int.toNat s.2.2.2.2.1) ([],([],())))
   let t2:=i64.wrap (s.2.2.2.2.1-1)
   bif decide (0<=t2)&&decide (t2<(List.length s.2.2.2.2.2.1:Int)) then
    let t3:=(List.getD s.2.2.2.2.2.1 (Int.toNat t2) ([],([],())))
    match jJ (t1,t3,()) with
    |none=>none
    |some cN=>
     bif (!(decide (cN.1<0))) then
      some (.inr (.inl (s.1,s.2.1,s.2.2.1,s.2.2.2.1,s.2.2.2.2.2.1,())))
     else
      let t5:=i64.wrap (s.2.2.2.2.1-1)
      let t6:=i64.wrap (s.2.2.2.2.1-1)
      bif decide (0<=t6)&&decide (t6<(List.length s.2.2.2.2.2.1:Int)) then
       let t7:=(List.getD s.2.2.2.2.2.1 (Int.toNat t6) ([],([],())))
       bif decide (0<=s.2.2.2.2.1)&&decide (s.2.2.2.2.1<(List.length s.2.2.2.2.2.1:Int)) then
        let t8:=(List.getD s.2.2.2.2.2.1 (Int.toNat s.2.2.2.2.1) ([],([],())))
        bif decide (0<=s.2.2.2.2.1)&&decide (s.2.2.2.2.1<(List.length s.2.2.2.2.2.1:Int)) then
         let t9:=(List.set s.2.2.2.2.2.1 (Int.toNat s.2.2.2.2.1) t7)
         bif decide (0<=t5)&&decide (t5<(List.length t9:Int)) then
          let t10:=i64.wrap (s.2.2.2.2.1-1)
          some (.inl (s.1,s.2.1,s.2.2.1,s.2.2.2.1,t10,(List.set t9 (Int.toNat t5) t8),()))
         else none
        else none
       else none
      else none
   else none
  else none
 else
  some (.inr (.inl (s.1,s.2.1,s.2.2.1,s.2.2.2.1,s.2.2.2.2.2.1,())))
def EI:=bN zk
def zl (s:uz):Option (uz⊕(kp⊕Unit)):=
 bif decide (s.2.2.2.2.1<s.2.1) then
  bif decide (0<=s.2.2.2.2.1)&&decide (s.2.2.2.2.1<(List.length s.2.2.2.2.2.1:Int)) then
   let t0:=(List.getD s.2.2.2.2.2.1 (Int.toNat s.2.2.2.2.1) ([],([],())))
   let t1:=i64.wrap (s.2.2.2.2.1-1)
   bif decide (0<=t1)&&decide (t1<(List.length s.2.2.2.2.2.1:Int)) then
    let t2:=(List.getD s.2.2.2.2.2.1 (Int.toNat t1) ([],([],())))
    match jJ (t0,t2,()) with
    |none=>none
    |some bF=>
     bif (!(decide (bF.1<0))) then
      some (.inr (.inl (s.1,s.2.1,s.2.2.1,s.2.2.2.1,s.2.2.2.2.2.1,())))
     else
      let t4:=i64.wrap (s.2.2.2.2.1-1)
      let t5:=i64.wrap (s.2.2.2.2.1-1)
      bif decide (0<=t5)&&decide (t5<(List.length s.2.2.2.2.2.1:Int)) then
       let t6:=(List.getD s.2.2.2.2.2.1 (Int.toNat t5) ([],([],())))
       bif decide (0<=s.2.2.2.2.1)&&decide (s.2.2.2.2.1<(List.length s.2.2.2.2.2.1:Int)) then
        let t7:=(List.getD s.2.2.2.2.2.1 (Int.toNat s.2.2.2.2.1) ([],([],())))
        bif decide (0<=s.2.2.2.2.1)&&decide (s.2.2.2.2.1<(List.length s.2.2.2.2.2.1:Int)) then
         let t8:=(List.set s.2.2.2.2.2.1 (Int.toNat s.2.2.2.2.1) t6)
         bif decide (0<=t4)&&decide (t4<(List.length t8:Int)) then
          let t9:=i64.wrap (s.2.2.2.2.1+1)
          some (.inl (s.1,s.2.1,s.2.2.1,s.2.2.2.1,t9,(List.set t8 (Int.toNat t4) t7),()))
         else none
        else none
       else none
      else none
   else none
  else none
 else
  some (.inr (.inl (s.1,s.2.1,s.2.2.1,s.2.2.2.1,s.2.2.2.2.2.1,())))
def co:=bN zl
def zi (s:kp):Option (kp⊕((Bool×List ah×Unit)⊕(List ah×Unit))):=
 let t0:=(decide (((i64.wrap (s.2.1-s.2.2.1)):Int)>=2))
 bif t0 then
  match co (s.1,s.2.1,s.2.2.1,s.2.2.2.1,(i64.wrap (s.2.2.1+1)),s.2.2.2.2.1,()) with
  |none=>none
  |some (.inl aH)=>
   let t2:=i64.wrap (aH.2.2.2.1+1)
   some (.inl (aH.1,aH.2.1,aH.2.2.1,t2,aH.2.2.2.2.1,()))
  |some (.inr aH)=>
   none
 else
  let t1:=i64.wrap (s.2.2.2.1+1)
  some (.inl (s.1,s.2.1,s.2.2.1,t1,s.2.2.2.2.1,()))
def bv (s:kp):Option (kp⊕((Bool×List ah×Unit)⊕(List ah×Unit))):=
 bif decide (s.2.2.2.1<5) then
  match EH (s.1,s.2.1,s.2.2.1,s.2.2.2.1,s.2.2.2.2.1,()) with
  |none=>none
  |some (.inl z0)=>
   bif decide (z0.2.2.1=z0.2.1) then
    some (.inr (.inl (true,z0.2.2.2.2.1,())))
   else
    let t1:=(decide (((i64.wrap (z0.2.1-z0.1)):Int)<50))
    bif t1 then
     some (.inr (.inl (false,z0.2.2.2.2.1,())))
    else
     let t2:=i64.wrap (z0.2.2.1-1)
     let t3:=i64.wrap (z0.2.2.1-1)
     bif decide (0<=t3)&&decide (t3<(List.length z0.2.2.2.2.1:Int)) then
      let t4:=(List.getD z0.2.2.2.2.1 (Int.toNat t3) ([],([],())))
      bif decide (0<=z0.2.2.1)&&decide (z0.2.2.1<(List.length z0.2.2.2.2.1:Int)) then
       let t5:=(List.getD z0.2.2.2.2.1 (Int.toNat z0.2.2.1) ([],([],())))
       bif decide (0<=z0.2.2.1)&&decide (z0.2.2.1<(List.length z0.2.2.2.2.1:Int)) then
        let t6:=(List.set z0.2.2.2.2.1 (Int.toNat z0.2.2.1) t4)
        bif decide (0<=t2)&&decide (t2<(List.length t6:Int)) then
         let t7:=(decide (((i64.wrap (z0.2.2.1-z0.1)):Int)>=2))
         bif t7 then
          let t8:=i64.wrap (z0.2.2.1-1)
          match EI (z0.1,z0.2.1,z0.2.2.1,z0.2.2.2.1,t8,(List.set t6 (Int.toNat t2) t5),()) with
          |none=>none
          |some (.inl z9)=>
           zi (z9.1,z9.2.1,z9.2.2.1,z9.2.2.2.1,z9.2.2.2.2.1,())
          |some (.inr z9)=>
           none
         else
          zi (z0.1,z0.2.1,z0.2.2.1,z0.2.2.2.1,(List.set t6 (Int.toNat t2) t5),())
        else none
       else none
      else none
     else none
  |some (.inr z0)=>
   none
 else
  some (.inr (.inr (s.2.2.2.2.1,())))
def Mw:=bN bv
def zb (s:kq):Option (Bool×List ah×Unit):=
 match Mw (s.1,s.2.1,(i64.wrap (s.1+1)),0,s.2.2.1,()) with
 |none=>none
 |some (.inl z0)=>
  some (z0.1,z0.2.1,())
 |some (.inr z0)=>
  some (false,z0.1,())
def EC (s:dW):Option (dW⊕(dW⊕Unit)):=
 bif decide (s.2.1<=s.2.2.1) then
  bif decide (0<=s.1)&&decide (s.1<(List.length s.2.2.2.1:Int)) then
   let t0:=(List.getD s.2.2.2.1 (Int.toNat s.1) ([],([],())))
   bif decide (0<=s.2.1)&&decide (s.2.1<(List.length s.2.2.2.1:Int)) then
    let t1:=(List.getD s.2.2.2.1 (Int.toNat s.2.1) ([],([],())))
    match jJ (t0,t1,()) with
    |none=>none
    |some aL=>
     bif (!(decide (aL.1<0))) then
      some (.inl (s.1,(i64.wrap (s.2.1+1)),s.2.2.1,s.2.2.2.1,()))
     else
      some (.inr (.inl (s.1,s.2.1,s.2.2.1,s.2.2.2.1,())))
   else none
  else none
 else
  some (.inr (.inl (s.1,s.2.1,s.2.2.1,s.2.2.2.1,())))
def MK:=bN EC
def ED (s:dW):Option (dW⊕(dW⊕Unit)):=
 bif decide (s.2.1<=s.2.2.1) then
  bif decide (0<=s.1)&&decide (s.1<(List.length s.2.2.2.1:Int)) then
   let t0:=(List.getD s.2.2.2.1 (Int.toNat s.1) ([],([],())))
   bif decide (0<=s.2.2.1)&&decide (s.2.2.1<(List.length s.2.2.2.1:Int)) then
    let t1:=(List.getD s.2.2.2.1 (Int.toNat s.2.2.1) ([],([],())))
    match jJ (t0,t1,()) with
    |none=>none
    |some aL=>
     bif decide (aL.1<0) then
      some (.inl (s.1,s.2.1,(i64.wrap (s.2.2.1-1)),s.2.2.2.1,()))
     else
      some (.inr (.inl (s.1,s.2.1,s.2.2.1,s.2.2.2.1,())))
   else none
  else none
 else
  some (.inr (.inl (s.1,s.2.1,s.2.2.1,s.2.2.2.1,())))
def ML:=bN ED
def EB (s:dW):Option (dW⊕((Int×List ah×Unit)⊕Unit)):=
 match MK (s.1,s.2.1,s.2.2.1,s.2.2.2.1,()) with
 |none=>none
 |some (.inl z0)=>
  match ML (z0.1,z0.2.1,z0.2.2.1,z0.2.2.2.1,()) with
  |none=>none
  |some (.inl aH)=>
   bif decide (aH.2.1>aH.2.2.1) then
    some (.inr (.inl (aH.2.1,aH.2.2.2.1,())))
   else
    bif decide (0<=aH.2.2.1)&&decide (aH.2.2.1<(List.length aH.2.2.2.1:Int)) then
     let t2:=(List.getD aH.2.2.2.1 (Int.toNat aH.2.2.1) ([],([],())))
     bif decide (0<=aH.2.1)&&decide (aH.2.1<(List.length aH.2.2.2.1:Int)) then
      let t3:=(List.getD aH.2.2.2.1 (Int.toNat aH.2.1) ([],([],())))
      bif decide (0<=aH.2.1)&&decide (aH.2.1<(List.length aH.2.2.2.1:Int)) then
       let t4:=(List.set aH.2.2.2.1 (Int.toNat aH.2.1) t2)
       bif decide (0<=aH.2.2.1)&&decide (aH.2.2.1<(List.length t4:Int)) then
        let t5:=i64.wrap (aH.2.2.1-1)
        some (.inl (aH.1,(i64.wrap (aH.2.1+1)),t5,(List.set t4 (Int.toNat aH.2.2.1) t3),()))
       else none
      else none
     else none
    else none
  |some (.inr aH)=>
   none
 |some (.inr z0)=>
  none
def EF:=bN EB
def zo (s:dW):Option (Int×List ah×Unit):=
 bif decide (0<=s.2.2.1)&&decide (s.2.2.1<(List.length s.2.2.2.1:Int)) then
  let t0:=(List.getD s.2.2.2.1 (Int.toNat s.2.2.1) ([],([],())))
  bif decide (0<=s.1)&&decide (s.1<(List.length s.2.2.2.1:Int)) then
   let t1:=(List.getD s.2.2.2.1 (Int.toNat s.1) ([],([],())))
   bif decide (0<=s.1)&&decide (s.1<(List.length s.2.2.2.1:Int)) then
    bif (decide (0<=s.2.2.1)&&decide (s.2.2.1<(List.length (List.set s.2.2.2.1 (Int.toNat s.1) t0):Int))) then
     let t2:=(List.set (List.set s.2.2.2.1 (Int.toNat s.1) t0) (Int.toNat s.2.2.1) t1)
     match EF (s.1,(i64.wrap (s.1+1)),(i64.wrap (s.2.1-1)),t2,()) with
     |none=>none
     |some (.inl z3)=>
      some (z3.1,z3.2.1,())
     |some (.inr z3)=>
      none
    else none
   else none
  else none
 else none
def EO (s:dW):Option (dW⊕(dW⊕Unit)):=
 bif decide (s.2.1<=s.2.2.1) then
  bif decide (0<=s.2.1)&&decide (s.2.1<(List.length s.2.2.2.1:Int)) then
   let t0:=(List.getD s.2.2.2.1 (Int.toNat s.2.1) ([],([],())))
   bif decide (0<=s.1)&&decide (s.1<(List.length s.2.2.2.1:Int)) then
    let t1:=(List.getD s.2.2.2.1 (Int.toNat s.1) ([],([],())))
    match jJ (t0,t1,()) with
    |none=>none
    |some aL=>
     bif decide (aL.1<0) then
      some (.inl (s.1,(i64.wrap (s.2.1+1)),s.2.2.1,s.2.2.2.1,()))
     else
      some (.inr (.inl (s.1,s.2.1,s.2.2.1,s.2.2.2.1,())))
   else none
  else none
 else
  some (.inr (.inl (s.1,s.2.1,s.2.2.1,s.2.2.2.1,())))
def Nc:=bN EO
def EP (s:dW):Option (dW⊕(dW⊕Unit)):=
 bif decide (s.2.1<=s.2.2.1) then
  bif decide (0<=s.2.2.1)&&decide (s.2.2.1<(List.length s.2.2.2.1:Int)) then
   let t0:=(List.getD s.2.2.2.1 (Int.toNat s.2.2.1) ([],([],())))
   bif decide (0<=s.1)&&decide (s.1<(List.length s.2.2.2.1:Int)) then
    let t1:=(List.getD s.2.2.2.1 (Int.toNat s.1) ([],([],())))
    match jJ (t0,t1,()) with
    |none=>none
    |some aL=>
     bif (!(decide (aL.1<0))) then
      some (.inl (s.1,s.2.1,(i64.wrap (s.2.2.1-1)),s.2.2.2.1,()))
     else
      some (.inr (.inl (s.1,s.2.1,s.2.2.1,s.2.2.2.1,())))
   else none
  else none
 else
  some (.inr (.inl (s.1,s.2.1,s.2.2.1,s.2.2.2.1,())))
def Nd:=bN EP
def ES (s:dW):Option (dW⊕(dW⊕Unit)):=
 bif decide (s.2.1<=s.2.2.1) then
  bif decide (0<=s.2.1)&&decide (s.2.1<(List.length s.2.2.2.1:Int)) then
   let t0:=(List.getD s.2.2.2.1 (Int.toNat s.2.1) ([],([],())))
   bif decide (0<=s.1)&&decide (s.1<(List.length s.2.2.2.1:Int)) then
    let t1:=(List.getD s.2.2.2.1 (Int.toNat s.1) ([],([],())))
    match jJ (t0,t1,()) with
    |none=>none
    |some aL=>
     bif decide (aL.1<0) then
      some (.inl (s.1,(i64.wrap (s.2.1+1)),s.2.2.1,s.2.2.2.1,()))
     else
      some (.inr (.inl (s.1,s.2.1,s.2.2.1,s.2.2.2.1,())))
   else none
  else none
 else
  some (.inr (.inl (s.1,s.2.1,s.2.2.1,s.2.2.2.1,())))
def Nf:=bN ES
def ET (s:dW):Option (dW⊕(dW⊕Unit)):=
 bif decide (s.2.1<=s.2.2.1) then
  bif decide (0<=s.2.2.1)&&decide (s.2.2.1<(List.length s.2.2.2.1:Int)) then
   let t0:=(List.getD s.2.2.2.1 (Int.toNat s.2.2.1) ([],([],())))
   bif decide (0<=s.1)&&decide (s.1<(List.length s.2.2.2.1:Int)) then
    let t1:=(List.getD s.2.2.2.1 (Int.toNat s.1) ([],([],())))
    match jJ (t0,t1,()) with
    |none=>none
    |some aL=>
     bif (!(decide (aL.1<0))) then
      some (.inl (s.1,s.2.1,(i64.wrap (s.2.2.1-1)),s.2.2.2.1,()))
     else
      some (.inr (.inl (s.1,s.2.1,s.2.2.1,s.2.2.2.1,())))
   else none
  else none
 else
  some (.inr (.inl (s.1,s.2.1,s.2.2.1,s.2.2.2.1,())))
def Ng:=bN ET
def ER (s:dW):Option (dW⊕(kq⊕Unit)):=
 match Nf (s.1,s.2.1,s.2.2.1,s.2.2.2.1,()) with
 |none=>none
 |some (.inl z0)=>
  match Ng (z0.1,z0.2.1,z0.2.2.1,z0.2.2.2.1,()) with
  |none=>none
  |some (.inl aH)=>
   bif decide (aH.2.1>aH.2.2.1) then
    some (.inr (.inl (aH.1,aH.2.2.1,aH.2.2.2.1,())))
   else
    bif decide (0<=aH.2.2.1)&&decide (aH.2.2.1<(List.length aH.2.2.2.1:Int)) then
     let t2:=(List.getD aH.2.2.2.1 (Int.toNat aH.2.2.1) ([],([],())))
     bif decide (0<=aH.2.1)&&decide (aH.2.1<(List.length aH.2.2.2.1:Int)) then
      let t3:=(List.getD aH.2.2.2.1 (Int.toNat aH.2.1) ([],([],())))
      bif decide (0<=aH.2.1)&&decide (aH.2.1<(List.length aH.2.2.2.1:Int)) then
       let t4:=(List.set aH.2.2.2.1 (Int.toNat aH.2.1) t2)
       bif decide (0<=aH.2.2.1)&&decide (aH.2.2.1<(List.length t4:Int)) then
        let t5:=i64.wrap (aH.2.2.1-1)
        some (.inl (aH.1,(i64.wrap (aH.2.1+1)),t5,(List.set t4 (Int.toNat aH.2.2.1) t3),()))
       else none
      else none
     else none
    else none
  |some (.inr aH)=>
   none
 |some (.inr z0)=>
  none
def EU:=bN ER
def dl (s:dW):Option (Int×Bool×List ah×Unit):=
 bif decide (0<=s.2.2.1)&&decide (s.2.2.1<(List.length s.2.2.2.1:Int)) then
  let t0:=(List.getD s.2.2.2.1 (Int.toNat s.2.2.1) ([],([],())))
  bif decide (0<=s.1)&&decide (s.1<(List.length s.2.2.2.1:Int)) then
   let t1:=(List.getD s.2.2.2.1 (Int.toNat s.1) ([],([],())))
   bif decide (0<=s.1)&&decide (s.1<(List.length s.2.2.2.1:Int)) then
    bif (decide (0<=s.2.2.1)&&decide (s.2.2.1<(List.length (List.set s.2.2.2.1 (Int.toNat s.1) t0):Int))) then
     let t2:=(List.set (List.set s.2.2.2.1 (Int.toNat s.1) t0) (Int.toNat s.2.2.1) t1)
     match Nc (s.1,(i64.wrap (s.1+1)),(i64.wrap (s.2.1-1)),t2,()) with
     |none=>none
     |some (.inl z3)=>
      match Nd (z3.1,z3.2.1,z3.2.2.1,z3.2.2.2.1,()) with
      |none=>none
      |some (.inl z4)=>
       bif decide (z4.2.1>z4.2.2.1) then
        bif decide (0<=z4.1)&&decide (z4.1<(List.length z4.2.2.2.1:Int)) then
         let t5:=(List.getD z4.2.2.2.1 (Int.toNat z4.1) ([],([],())))
         bif decide (0<=z4.2.2.1)&&decide (z4.2.2.1<(List.length z4.2.2.2.1:Int)) then
          let t6:=(List.getD z4.2.2.2.1 (Int.toNat z4.2.2.1) ([],([],())))
          bif decide (0<=z4.2.2.1)&&decide (z4.2.2.1<(List.length z4.2.2.2.1:Int)) then
           let t7:=(List.set z4.2.2.2.1 (Int.toNat z4.2.2.1) t5)
           bif decide (0<=z4.1)&&decide (z4.1<(List.length t7:Int)) then
            some (z4.2.2.1,true,(List.set t7 (Int.toNat z4.1) t6),())
           else none
          else none
         else none
        else none
       else
        bif decide (0<=z4.2.2.1)&&decide (z4.2.2.1<(List.length z4.2.2.2.1:Int)) then
         let t5:=(List.getD z4.2.2.2.1 (Int.toNat z4.2.2.1) ([],([],())))
         bif decide (0<=z4.2.1)&&decide (z4.2.1<(List.length z4.2.2.2.1:Int)) then
          let t6:=(List.getD z4.2.2.2.1 (Int.toNat z4.2.1) ([],([],())))
          bif decide (0<=z4.2.1)&&decide (z4.2.1<(List.length z4.2.2.2.1:Int)) then
           let t7:=(List.set z4.2.2.2.1 (Int.toNat z4.2.1) t5)
           bif decide (0<=z4.2.2.1)&&decide (z4.2.2.1<(List.length t7:Int)) then
            let t8:=i64.wrap (z4.2.2.1-1)
            match EU (z4.1,(i64.wrap (z4.2.1+1)),t8,(List.set t7 (Int.toNat z4.2.2.1) t6),()) with
            |none=>none
            |some (.inl z9)=>
             bif decide (0<=z9.1)&&decide (z9.1<(List.length z9.2.2.1:Int)) then
              let t10:=(List.getD z9.2.2.1 (Int.toNat z9.1) ([],([],())))
              bif decide (0<=z9.2.1)&&decide (z9.2.1<(List.length z9.2.2.1:Int)) then
               let t11:=(List.getD z9.2.2.1 (Int.toNat z9.2.1) ([],([],())))
               bif decide (0<=z9.2.1)&&decide (z9.2.1<(List.length z9.2.2.1:Int)) then
                let t12:=(List.set z9.2.2.1 (Int.toNat z9.2.1) t10)
                bif decide (0<=z9.1)&&decide (z9.1<(List.length t12:Int)) then
                 some (z9.2.1,false,(List.set t12 (Int.toNat z9.1) t11),())
                else none
               else none
              else none
             else none
            |some (.inr z9)=>
             none
           else none
          else none
         else none
        else none
      |some (.inr z4)=>
       none
     |some (.inr z3)=>
      none
    else none
   else none
  else none
 else none
def FU (s:Int×Unit):Option (Int×Unit):=
 match wW ((IntKind.u64.wrap s.1),()) with
 |none=>none
 |some aj=>
  bif decide (aj.1<0) then
   none
  else
   let t1:=(IntKind.u64.wrap (1*2^(min (Int.toNat aj.1) IntKind.u64.bits)))
   some (t1,())
def Pv (s:Int×Unit):Option ly:=
 let t0:=(IntKind.u64.wrap (s.1*2^(min (Int.toNat 13) IntKind.u64.bits)))
 let t1:=(IntKind.u64.wrap ((BitVec.ofInt IntKind.u64.bits s.1 ^^^ BitVec.ofInt IntKind.u64.bits t0).toNat:Int))
 let t2:Int:=(Int.fdiv t1 (2^(min (Int.toNat 7) IntKind.u64.bits)))
 let t3:=(IntKind.u64.wrap ((BitVec.ofInt IntKind.u64.bits t1 ^^^ BitVec.ofInt IntKind.u64.bits t2).toNat:Int))
 let t4:=(IntKind.u64.wrap (t3*2^(min (Int.toNat 17) IntKind.u64.bits)))
 let t5:=(IntKind.u64.wrap ((BitVec.ofInt IntKind.u64.bits t3 ^^^ BitVec.ofInt IntKind.u64.bits t4).toNat:Int))
 some (t5,t5,())
def EA (s:Int×Int×Int×Int×Int×List ah×Int×Unit):Option (H0⊕((List ah×Unit)⊕Unit)):=
 bif (decide (0<=(i64.wrap (s.1+s.2.2.2.2.1)))&&decide (((i64.wrap (s.1+s.2.2.2.2.1)):Int)<(List.length s.2.2.2.2.2.1:Int))) then
  let t0:=(List.getD s.2.2.2.2.2.1 (Int.toNat (i64.wrap (s.1+s.2.2.2.2.1))) ([],([],())))
  bif decide (0<=s.2.2.2.1)&&decide (s.2.2.2.1<(List.length s.2.2.2.2.2.1:Int)) then
   let t1:=(List.getD s.2.2.2.2.2.1 (Int.toNat s.2.2.2.1) ([],([],())))
   bif decide (0<=s.2.2.2.1)&&decide (s.2.2.2.1<(List.length s.2.2.2.2.2.1:Int)) then
    let t2:=(List.set s.2.2.2.2.2.1 (Int.toNat s.2.2.2.1) t0)
    bif (decide (0<=(i64.wrap (s.1+s.2.2.2.2.1)))&&decide (((i64.wrap (s.1+s.2.2.2.2.1)):Int)<(List.length t2:Int))) then
     let t3:=(List.set t2 (Int.toNat (i64.wrap (s.1+s.2.2.2.2.1))) t1)
     let t4:=i64.wrap (s.2.2.2.1+1)
     some (.inl (s.1,s.2.1,s.2.2.1,t4,t3,s.2.2.2.2.2.2.1,()))
    else none
   else none
  else none
 else none
def zz (s:H0):Option (H0⊕((List ah×Unit)⊕Unit)):=
 let t0:=i64.wrap (Int.tdiv s.2.1 4)
 let t1:=(i64.wrap (s.1+(i64.wrap (t0*2))))
 let t2:=(decide (s.2.2.2.1<=(i64.wrap (t1+1))))
 bif t2 then
  match Pv (s.2.2.2.2.2.1,()) with
  |none=>none
  |some bF=>
   let t4:=(IntKind.u64.wrap ((BitVec.ofInt IntKind.u64.bits bF.1 &&& BitVec.ofInt IntKind.u64.bits (IntKind.u64.wrap (s.2.2.1-1))).toNat:Int))
   let t5:=(decide (((i64.wrap t4):Int)>=s.2.1))
   bif t5 then
    let t6:=i64.wrap ((i64.wrap t4)-s.2.1)
    EA (s.1,s.2.1,s.2.2.1,s.2.2.2.1,t6,s.2.2.2.2.1,bF.2.1,())
   else
    EA (s.1,s.2.1,s.2.2.1,s.2.2.2.1,(i64.wrap t4),s.2.2.2.2.1,bF.2.1,())
 else
  some (.inr (.inl (s.2.2.2.2.1,())))
def M6:=bN zz
def EK (s:kq):Option (List ah×Unit):=
 let t0:=(decide (((i64.wrap (s.2.1-s.1)):Int)>=8))
 bif t0 then
  let t1:=(IntKind.u64.wrap (i64.wrap (s.2.1-s.1)))
  match FU ((i64.wrap (s.2.1-s.1)),()) with
  |none=>none
  |some aL=>
   let t3:=(i64.wrap (Int.tdiv (i64.wrap (s.2.1-s.1)) 4))
   let t4:=(i64.wrap (s.1+(i64.wrap (t3*2))))
   match M6 (s.1,(i64.wrap (s.2.1-s.1)),aL.1,(i64.wrap (t4-1)),s.2.2.1,t1,()) with
   |none=>none
   |some (.inl z5)=>
    some (z5.1,())
   |some (.inr z5)=>
    none
 else
  some (s.2.2.1,())
def lN (bT:dW->Option (List ah×Unit)) (s:Re):Option (RJ⊕(List ah×Unit)):=
 bif s.2.2.2.2.2.2.2.1 then
  match zb (s.1,s.2.1,s.2.2.2.2.2.2.2.2.1,()) with
  |none=>none
  |some aj=>
   bif aj.1 then
    some (.inr (aj.2.1,()))
   else
    some (.inl (s.1,s.2.1,s.2.2.1,s.2.2.2.1,s.2.2.2.2.1,s.2.2.2.2.2.1,s.2.2.2.2.2.2.1,aj.2.1,()))
 else
  some (.inl (s.1,s.2.1,s.2.2.1,s.2.2.2.1,s.2.2.2.2.1,s.2.2.2.2.2.1,s.2.2.2.2.2.2.1,s.2.2.2.2.2.2.2.2.1,()))
def nQ (bT:dW->Option (List ah×Unit)) (s:Re):Option (uz⊕oO):=
 bif s.2.2.2.2.2.2.2.1 then
  match zo (s.1,s.2.1,s.2.2.2.2.2.2.1,s.2.2.2.2.2.2.2.2.1,()) with
  |none=>none
  |some aj=>
   some (.inr (aj.1,s.2.1,s.2.2.1,s.2.2.2.1,s.2.2.2.2.1,aj.2.1,()))
 else
  some (.inl (s.1,s.2.1,s.2.2.1,s.2.2.2.2.2.1,s.2.2.2.2.2.2.1,s.2.2.2.2.2.2.2.2.1,()))
def oS (bT:dW->Option (List ah×Unit)) (s:uz):Option (oO⊕Unit):=
 match dl (s.1,s.2.1,s.2.2.2.2.1,s.2.2.2.2.2.1,()) with
 |none=>none
 |some aj=>
  let t1:=i64.wrap (Int.tdiv s.2.2.2.1 8)
  let t2:=(decide (((i64.wrap (aj.1-s.1)):Int)<(i64.wrap (s.2.1-aj.1))))
  bif t2 then
   let t3:=(decide (((i64.wrap (aj.1-s.1)):Int)>=t1))
   match bT (s.1,aj.1,s.2.2.1,aj.2.2.1,()) with
   |none=>none
   |some cN=>
    some (.inl ((i64.wrap (aj.1+1)),s.2.1,s.2.2.1,t3,aj.2.1,cN.1,()))
  else
   let t3:=(decide (((i64.wrap (s.2.1-aj.1)):Int)>=t1))
   match bT ((i64.wrap (aj.1+1)),s.2.1,s.2.2.1,aj.2.2.1,()) with
   |none=>none
   |some cN=>
    some (.inl (s.1,aj.1,s.2.2.1,t3,aj.2.1,cN.1,()))
def kt (bT:dW->Option (List ah×Unit)) (s:RJ):Option (oO⊕oO):=
 bif decide (s.1>0) then
  bif (decide (0<=(i64.wrap (s.1-1)))&&decide (((i64.wrap (s.1-1)):Int)<(List.length s.2.2.2.2.2.2.2.1:Int))) then
   let t0:=(List.getD s.2.2.2.2.2.2.2.1 (Int.toNat (i64.wrap (s.1-1))) ([],([],())))
   bif decide (0<=s.2.2.2.2.2.2.1)&&decide (s.2.2.2.2.2.2.1<(List.length s.2.2.2.2.2.2.2.1:Int)) then
    let t1:=(List.getD s.2.2.2.2.2.2.2.1 (Int.toNat s.2.2.2.2.2.2.1) ([],([],())))
    match jJ (t0,t1,()) with
    |none=>none
    |some aL=>
     match nQ bT (s.1,s.2.1,s.2.2.1,s.2.2.2.1,s.2.2.2.2.1,s.2.2.2.2.2.1,s.2.2.2.2.2.2.1,(!(decide (aL.1<0))),s.2.2.2.2.2.2.2.1,()) with
     |none=>none
     |some (.inl z3)=>
      match oS bT (z3.1,z3.2.1,z3.2.2.1,z3.2.2.2.1,z3.2.2.2.2.1,z3.2.2.2.2.2.1,()) with
      |none=>none
      |some (.inl z4)=>
       some (.inl (z4.1,z4.2.1,z4.2.2.1,z4.2.2.2.1,z4.2.2.2.2.1,z4.2.2.2.2.2.1,()))
      |some (.inr z4)=>
       none
     |some (.inr z3)=>
      some (.inr (z3.1,z3.2.1,z3.2.2.1,z3.2.2.2.1,z3.2.2.2.2.1,z3.2.2.2.2.2.1,()))
   else none
  else none
 else
  match nQ bT (s.1,s.2.1,s.2.2.1,s.2.2.2.1,s.2.2.2.2.1,s.2.2.2.2.2.1,s.2.2.2.2.2.2.1,false,s.2.2.2.2.2.2.2.1,()) with
  |none=>none
  |some (.inl z0)=>
   match oS bT (z0.1,z0.2.1,z0.2.2.1,z0.2.2.2.1,z0.2.2.2.2.1,z0.2.2.2.2.2.1,()) with
   |none=>none
   |some (.inl aH)=>
    some (.inl (aH.1,aH.2.1,aH.2.2.1,aH.2.2.2.1,aH.2.2.2.2.1,aH.2.2.2.2.2.1,()))
   |some (.inr aH)=>
    none
  |some (.inr z0)=>
   some (.inr (z0.1,z0.2.1,z0.2.2.1,z0.2.2.2.1,z0.2.2.2.2.1,z0.2.2.2.2.2.1,()))
def EN (bT:dW->Option (List ah×Unit)) (s:Int×Int×Int×Bool×Bool×Int×Int×Int×List ah×Unit):Option (oO⊕((List ah×Unit)⊕Unit)):=
 bif s.2.2.2.1 then
  bif s.2.2.2.2.1 then
   let t0:=decide (s.2.2.2.2.2.2.2.1=1)
   match lN bT (s.1,s.2.1,s.2.2.1,s.2.2.2.1,s.2.2.2.2.1,s.2.2.2.2.2.1,s.2.2.2.2.2.2.1,t0,s.2.2.2.2.2.2.2.2.1,()) with
   |none=>none
   |some (.inl aH)=>
    match kt bT (aH.1,aH.2.1,aH.2.2.1,aH.2.2.2.1,aH.2.2.2.2.1,aH.2.2.2.2.2.1,aH.2.2.2.2.2.2.1,aH.2.2.2.2.2.2.2.1,()) with
    |none=>none
    |some (.inl z2)=>
     some (.inl (z2.1,z2.2.1,z2.2.2.1,z2.2.2.2.1,z2.2.2.2.2.1,z2.2.2.2.2.2.1,()))
    |some (.inr z2)=>
     some (.inl (z2.1,z2.2.1,z2.2.2.1,z2.2.2.2.1,z2.2.2.2.2.1,z2.2.2.2.2.2.1,()))
   |some (.inr aH)=>
    some (.inr (.inl (aH.1,())))
  else
   match lN bT (s.1,s.2.1,s.2.2.1,s.2.2.2.1,s.2.2.2.2.1,s.2.2.2.2.2.1,s.2.2.2.2.2.2.1,false,s.2.2.2.2.2.2.2.2.1,()) with
   |none=>none
   |some (.inl z0)=>
    match kt bT (z0.1,z0.2.1,z0.2.2.1,z0.2.2.2.1,z0.2.2.2.2.1,z0.2.2.2.2.2.1,z0.2.2.2.2.2.2.1,z0.2.2.2.2.2.2.2.1,()) with
    |none=>none
    |some (.inl aH)=>
     some (.inl (aH.1,aH.2.1,aH.2.2.1,aH.2.2.2.1,aH.2.2.2.2.1,aH.2.2.2.2.2.1,()))
    |some (.inr aH)=>
     some (.inl (aH.1,aH.2.1,aH.2.2.1,aH.2.2.2.1,aH.2.2.2.2.1,aH.2.2.2.2.2.1,()))
   |some (.inr z0)=>
    some (.inr (.inl (z0.1,())))
 else
  match lN bT (s.1,s.2.1,s.2.2.1,s.2.2.2.1,s.2.2.2.2.1,s.2.2.2.2.2.1,s.2.2.2.2.2.2.1,false,s.2.2.2.2.2.2.2.2.1,()) with
  |none=>none
  |some (.inl z0)=>
   match kt bT (z0.1,z0.2.1,z0.2.2.1,z0.2.2.2.1,z0.2.2.2.2.1,z0.2.2.2.2.2.1,z0.2.2.2.2.2.2.1,z0.2.2.2.2.2.2.2.1,()) with
   |none=>none
   |some (.inl aH)=>
    some (.inl (aH.1,aH.2.1,aH.2.2.1,aH.2.2.2.1,aH.2.2.2.2.1,aH.2.2.2.2.2.1,()))
   |some (.inr aH)=>
    some (.inl (aH.1,aH.2.1,aH.2.2.1,aH.2.2.2.1,aH.2.2.2.2.1,aH.2.2.2.2.2.1,()))
  |some (.inr z0)=>
   some (.inr (.inl (z0.1,())))
def EM (bT:dW->Option (List ah×Unit)) (s:Int×Int×Int×Bool×Bool×Int×List ah×Unit):Option (oO⊕((List ah×Unit)⊕Unit)):=
 match EY (s.1,s.2.1,s.2.2.2.2.2.2.1,()) with
 |none=>none
 |some aj=>
  bif decide (aj.2.1=2) then
   match zv (s.1,s.2.1,aj.2.2.1,()) with
   |none=>none
   |some au=>
    let t2:=(i64.wrap ((i64.wrap (s.2.1-1))-(i64.wrap (aj.1-s.1))))
    EN bT (s.1,s.2.1,s.2.2.1,s.2.2.2.1,s.2.2.2.2.1,s.2.2.2.2.2.1,t2,1,au.1,())
  else
   EN bT (s.1,s.2.1,s.2.2.1,s.2.2.2.1,s.2.2.2.2.1,s.2.2.2.2.2.1,aj.1,aj.2.1,aj.2.2.1,())
def vn (bT:dW->Option (List ah×Unit)) (s:oO):Option (oO⊕((List ah×Unit)⊕Unit)):=
 let t0:=(decide (((i64.wrap (s.2.1-s.1)):Int)<=12))
 bif t0 then
  match EL (s.1,s.2.1,s.2.2.2.2.2.1,()) with
  |none=>none
  |some au=>
   some (.inr (.inl (au.1,())))
 else
  bif decide (s.2.2.1=0) then
   match Fg (s.1,s.2.1,s.2.2.2.2.2.1,()) with
   |none=>none
   |some au=>
    some (.inr (.inl (au.1,())))
  else
   bif !s.2.2.2.1 then
    match EK (s.1,s.2.1,s.2.2.2.2.2.1,()) with
    |none=>none
    |some au=>
     EM bT (s.1,s.2.1,(i64.wrap (s.2.2.1-1)),s.2.2.2.1,s.2.2.2.2.1,(i64.wrap (s.2.1-s.1)),au.1,())
   else
    EM bT (s.1,s.2.1,s.2.2.1,s.2.2.2.1,s.2.2.2.2.1,(i64.wrap (s.2.1-s.1)),s.2.2.2.2.2.1,())
def E6 (bT:dW->Option (List ah×Unit)) (s:oO):Option ((List ah×Unit)⊕Unit):=bN (vn bT) s
def zu (bT:dW->Option (List ah×Unit)) (s:dW):Option (List ah×Unit):=
 match E6 bT (s.1,s.2.1,s.2.2.1,true,true,s.2.2.2.1,()) with
 |none=>none
 |some (.inl z0)=>
  some (z0.1,())
 |some (.inr z0)=>
  none
def EV:Nat->dW->Option (List ah×Unit)
 |0,_=>none
 |n+1,s=>zu (EV n) s
def OZ (s:dW):Option (List ah×Unit):=EV jB s
def E5 (s:List ah×Unit):Option (List ah×Unit):=
 let t0:=(IntKind.u64.wrap ((List.length s.1):Int))
 match wW (t0,()) with
 |none=>none
 |some au=>
  match OZ (0,((List.length s.1):Int),au.1,s.1,()) with
  |none=>none
  |some aL=>
   some (aL.1,())
def QB (s:Int×Int×Int×List ah×ah×List ah×Unit):Option (CA⊕((List ah×Unit)⊕Unit)):=
 bif (decide (0<=(i64.wrap (s.1-1)))&&decide (((i64.wrap (s.1-1)):Int)<(List.length s.2.2.2.1:Int))) then
  let t0:=(List.getD s.2.2.2.1 (Int.toNat (i64.wrap (s.1-1))) ([],([],())))
  match wy (t0.2.1,s.2.2.2.2.1.2.1,()) with
  |none=>none
  |some au=>
   bif decide (au.1<0) then
    bif (decide (0<=(i64.wrap (s.1-1)))&&decide (((i64.wrap (s.1-1)):Int)<(List.length s.2.2.2.1:Int))) then
     let t2:=(List.set s.2.2.2.1 (Int.toNat (i64.wrap (s.1-1))) ((List.getD s.2.2.2.1 (Int.toNat (i64.wrap (s.1-1))) ([],([],()))).1,(s.2.2.2.2.1.2.1,(List.getD s.2.2.2.1 (Int.toNat (i64.wrap (s.1-1))) ([],([],()))).2.2)))
     some (.inl (s.2.1,(i64.wrap (s.2.2.1+1)),t2,s.2.2.2.2.2.1,()))
    else none
   else
    some (.inl (s.2.1,(i64.wrap (s.2.2.1+1)),s.2.2.2.1,s.2.2.2.2.2.1,()))
 else none
def tt (s:Int×Int×Int×Bool×List ah×ah×List ah×Unit):Option (CA⊕((List ah×Unit)⊕Unit)):=
 bif s.2.2.2.1 then
  bif (decide ((List.length s.2.2.2.2.1+List.length ([s.2.2.2.2.2.1]:List ah))*32<=bm)) then
   let t0:List ah:=(s.2.2.2.2.1++([s.2.2.2.2.2.1]:List ah))
   some (.inl (s.2.1,(i64.wrap (s.2.2.1+1)),t0,s.2.2.2.2.2.2.1,()))
  else none
 else
  QB (s.1,s.2.1,s.2.2.1,s.2.2.2.2.1,s.2.2.2.2.2.1,s.2.2.2.2.2.2.1,())
def rl (s:CA):Option (CA⊕((List ah×Unit)⊕Unit)):=
 bif decide (s.2.1<s.1) then
  bif decide (0<=s.2.1)&&decide (s.2.1<(List.length s.2.2.2.1:Int)) then
   let t0:=(List.getD s.2.2.2.1 (Int.toNat s.2.1) ([],([],())))
   let t1:=(decide ((((List.length s.2.2.1):Int):Int)=0))
   bif !t1 then
    let t2:=(i64.wrap (((List.length s.2.2.1):Int)-1))
    bif decide (0<=t2)&&decide (t2<(List.length s.2.2.1:Int)) then
     let t3:=(List.getD s.2.2.1 (Int.toNat t2) ([],([],())))
     let t4:=(!decide ((t3.2.1:af)=[]))
     bif t4 then
      let t5:=(i64.wrap (((List.length s.2.2.1):Int)-1))
      bif decide (0<=t5)&&decide (t5<(List.length s.2.2.1:Int)) then
       let t6:=(List.getD s.2.2.1 (Int.toNat t5) ([],([],())))
       tt (((List.length s.2.2.1):Int),s.1,s.2.1,(Op.bytesLess t6.2.1 t0.1),s.2.2.1,t0,s.2.2.2.1,())
      else none
     else
      tt (((List.length s.2.2.1):Int),s.1,s.2.1,false,s.2.2.1,t0,s.2.2.2.1,())
    else none
   else
    tt (((List.length s.2.2.1):Int),s.1,s.2.1,true,s.2.2.1,t0,s.2.2.2.1,())
  else none
 else
  some (.inr (.inl (s.2.2.1,())))
def JZ:=bN rl
def tX (s:List ah×Unit):Option (List ah×Unit):=
 match Fb (s.1,()) with
 |none=>none
 |some aj=>
  match zt (aj.1,()) with
  |none=>none
  |some au=>
   match E5 (au.1,()) with
   |none=>none
   |some aL=>
    match JZ (((List.length aL.1):Int),0,[],aL.1,()) with
    |none=>none
    |some (.inl z3)=>
     some (z3.1,())
    |some (.inr z3)=>
     none
def rm (s:RL):Option (RL⊕((List ah×Unit)⊕(af×List ah×Unit))):=
 bif decide (s.2.2.2.1<s.2.2.1) then
  bif decide (0<=s.2.2.2.1)&&decide (s.2.2.2.1<(List.length s.2.1:Int)) then
   let t0:=(List.getD s.2.1 (Int.toNat s.2.2.2.1) ([],([],())))
   let t1:=(!decide ((t0.1:af)=[]))
   bif t1 then
    bif (decide ((List.length s.2.2.2.2.1+List.length ([(s.1,(t0.1,()))]:List ah))*32<=bm)) then
     let t2:List ah:=(s.2.2.2.2.1++([(s.1,(t0.1,()))]:List ah))
     let t3:=decide ((t0.2.1:af)=[])
     bif t3 then
      some (.inr (.inl (t2,())))
     else
      let t4:=i64.wrap (s.2.2.2.1+1)
      some (.inl (t0.2.1,s.2.1,s.2.2.1,t4,t2,()))
    else none
   else
    let t2:=decide ((t0.2.1:af)=[])
    bif t2 then
     some (.inr (.inl (s.2.2.2.2.1,())))
    else
     let t3:=i64.wrap (s.2.2.2.1+1)
     some (.inl (t0.2.1,s.2.1,s.2.2.1,t3,s.2.2.2.2.1,()))
  else none
 else
  some (.inr (.inr (s.1,s.2.2.2.2.1,())))
def J1:=bN rm
def ye (s:List ah×Unit):Option (List ah×Unit):=
 match J1 ([],s.1,((List.length s.1):Int),0,[],()) with
 |none=>none
 |some (.inl z0)=>
  some (z0.1,())
 |some (.inr z0)=>
  bif (decide ((List.length z0.2.1+List.length ([(z0.1,([],()))]:List ah))*32<=bm)) then
   let t1:List ah:=(z0.2.1++([(z0.1,([],()))]:List ah))
   some (t1,())
  else none
def Bi (s:Rn):Option (Rn⊕(H7⊕Unit)):=
 let t0:=decide (s.2.2.2.2.2.1<s.2.2.2.2.1)
 bif t0 then
  bif decide (0<=s.2.2.2.2.2.1)&&decide (s.2.2.2.2.2.1<(List.length s.2.2.2.1:Int)) then
   let t1:=(List.getD s.2.2.2.1 (Int.toNat s.2.2.2.2.2.1) ([],([],())))
   match rP (s.2.2.2.2.2.2.2.1,t1,()) with
   |none=>none
   |some aL=>
    bif (decide ((List.length s.2.2.2.2.2.2.1+List.length ([aL.1]:List ah))*32<=bm)) then
     let t3:List ah:=(s.2.2.2.2.2.2.1++([aL.1]:List ah))
     let t4:=i64.wrap (s.2.2.2.2.2.1+1)
     some (.inl (s.1,s.2.1,s.2.2.1,s.2.2.2.1,s.2.2.2.2.1,t4,t3,s.2.2.2.2.2.2.2.1,s.2.2.2.2.2.2.2.2.1,()))
    else none
  else none
 else
  some (.inr (.inl (s.1,s.2.1,s.2.2.1,s.2.2.2.2.2.2.1,s.2.2.2.2.2.2.2.2.1,())))
def Jv:=bN Bi
def Bx (s:H7):Option (H7⊕((List ah×Unit)⊕Unit)):=
 bif decide (s.2.2.1<s.2.1) then
  bif decide (0<=s.2.2.1)&&decide (s.2.2.1<(List.length s.2.2.2.2.1:Int)) then
   let t0:=(List.getD s.2.2.2.2.1 (Int.toNat s.2.2.1) ([],([],())))
   match Jv (s.1,s.2.1,s.2.2.1,s.1,((List.length s.1):Int),0,s.2.2.2.1,t0,s.2.2.2.2.1,()) with
   |none=>none
   |some (.inl aH)=>
    let t2:=i64.wrap (aH.2.2.1+1)
    some (.inl (aH.1,aH.2.1,t2,aH.2.2.2.1,aH.2.2.2.2.1,()))
   |some (.inr aH)=>
    none
  else none
 else
  some (.inr (.inl (s.2.2.2.1,())))
def Ju:=bN Bx
def Da (s:H5):Option (List ah×Unit):=
 match tX (s.2.1,()) with
 |none=>none
 |some aj=>
  match ye (aj.1,()) with
  |none=>none
  |some au=>
   match Ju (s.1,((List.length au.1):Int),0,[],au.1,()) with
   |none=>none
   |some (.inl z2)=>
    match tX (z2.1,()) with
    |none=>none
    |some bF=>
     some (bF.1,())
   |some (.inr z2)=>
    none
def wS (s:H5):Option H5:=
 match Da (s.2.1,s.1,()) with
 |none=>none
 |some aj=>
  some (s.2.1,aj.1,())
def BY (s:ah×af×af×Unit):Option (ah×Unit):=
 match kT (s.2.2.1,()) with
 |none=>none
 |some aj=>
  match rC (s.1.1,s.2.1,s.2.2.1,()) with
  |none=>none
  |some au=>
   match rC (s.1.2.1,s.2.1,s.2.2.1,()) with
   |none=>none
   |some aL=>
    bif aL.2.1 then
     some ((au.1,(aL.1,())),())
    else
     some ((au.1,(aj.1.2.1,())),())
def vA (s:Rf):Option (Rf⊕((Int×List ah×List ah×Unit)⊕Unit)):=
 bif decide (s.2.1<s.1) then
  bif decide (0<=s.2.1)&&decide (s.2.1<(List.length s.2.2.2.1:Int)) then
   let t0:=(List.getD s.2.2.2.1 (Int.toNat s.2.1) ([],([],())))
   match rP (t0,s.2.2.2.2.2.1,()) with
   |none=>none
   |some au=>
    match j8 (au.1,()) with
    |none=>none
    |some aL=>
     bif !aL.1 then
      match BY (au.1,s.2.2.2.2.1.2.2.2.2.2.1,s.2.2.2.2.1.2.2.2.2.1,()) with
      |none=>none
      |some bF=>
       bif (decide ((List.length s.2.2.2.2.2.2.1+List.length ([bF.1]:List ah))*32<=bm)) then
        let t4:List ah:=(s.2.2.2.2.2.2.1++([bF.1]:List ah))
        some (.inl (s.1,(i64.wrap (s.2.1+1)),s.2.2.1,s.2.2.2.1,s.2.2.2.2.1,s.2.2.2.2.2.1,t4,()))
       else none
     else
      some (.inl (s.1,(i64.wrap (s.2.1+1)),s.2.2.1,s.2.2.2.1,s.2.2.2.2.1,s.2.2.2.2.2.1,s.2.2.2.2.2.2.1,()))
  else none
 else
  some (.inr (.inl (s.2.2.1,s.2.2.2.1,s.2.2.2.2.2.2.1,())))
def Pq:=bN vA
def AI (s:Int×List ah×a6×ah×List ah×Unit):Option (Bool×Int×List ah×Unit):=
 match wS (s.2.2.2.2.1,s.2.1,()) with
 |none=>none
 |some aj=>
  match Pq (((List.length aj.1):Int),0,s.1,aj.1,s.2.2.1,s.2.2.2.1,aj.2.1,()) with
  |none=>none
  |some (.inl aH)=>
   match tX (aH.2.2.1,()) with
   |none=>none
   |some aL=>
    bif decide (aH.1= -1) then
     some (true,0,aL.1,())
    else none
  |some (.inr aH)=>
   none
def AH (s:Bool×Int×List ah×a6×Unit):Option (Bool×Int×List ah×Unit):=
 bif s.1 then
  match kT (s.2.2.2.1.2.2.2.2.2.1,()) with
  |none=>none
  |some aj=>
   let t1:=decide (s.2.2.2.1.1=4)
   bif t1 then
    match kT (s.2.2.2.1.2.2.2.2.1,()) with
    |none=>none
    |some aL=>
     bif (decide ((List.length ([aj.1]:List ah)+List.length ([aL.1]:List ah))*32<=bm)) then
      let t3:List ah:=(([aj.1]:List ah)++([aL.1]:List ah))
      AI (s.2.1,s.2.2.1,s.2.2.2.1,aj.1,t3,())
     else none
   else
    AI (s.2.1,s.2.2.1,s.2.2.2.1,aj.1,([aj.1]:List ah),())
 else
  bif decide (s.2.1= -1) then
   some (true,0,s.2.2.1,())
  else none
def qC (s:Int×Bool×Int×List ah×a6×Unit):Option (Bool×Int×List ah×Unit):=
 bif s.2.1 then
  match oz (s.2.2.2.2.1.2.1,()) with
  |none=>none
  |some aj=>
   match wS (([aj.1]:List ah),s.2.2.2.1,()) with
   |none=>none
   |some au=>
    bif decide (s.2.2.1= -1) then
     some (true,0,au.2.1,())
    else none
 else
  bif decide (s.1=3) then
   match wS (([s.2.2.2.2.1.2.2.2.1]:List ah),s.2.2.2.1,()) with
   |none=>none
   |some aj=>
    bif decide (s.2.2.1= -1) then
     some (true,0,aj.2.1,())
    else none
  else
   bif decide (s.1=4) then
    AH (true,s.2.2.1,s.2.2.2.1,s.2.2.2.2.1,())
   else
    AH ((decide (s.1=5)),s.2.2.1,s.2.2.2.1,s.2.2.2.2.1,())
def nY (s:Int×a6×Int×List ah×Unit):Option (Bool×Int×List ah×Unit):=
 bif decide (s.2.2.1=0) then
  bif decide (s.2.2.1=0) then
   bif decide (s.2.1.1=1) then
    qC (s.2.1.1,true,(-1:Int),s.2.2.2.1,s.2.1,())
   else
    qC (s.2.1.1,(decide (s.2.1.1=2)),(-1:Int),s.2.2.2.1,s.2.1,())
  else none
 else none
def ze (s:Int×Int×List a6×List ah×Unit):Option ((Int×Int×List a6×List ah×Unit)⊕(CE⊕CE)):=
 bif decide (s.1>=0) then
  bif decide (0<=s.1)&&decide (s.1<(List.length s.2.2.1:Int)) then
   let t0:=(List.getD s.2.2.1 (Int.toNat s.1) (0,([],([],(([],([],())),([],([],(0,()))))))))
   match nY (s.1,t0,s.2.1,s.2.2.2.1,()) with
   |none=>none
   |some au=>
    bif !au.1 then
     some (.inr (.inl (au.2.1,s.2.2.1,au.2.2.1,())))
    else
     some (.inl ((i64.wrap (s.1-1)),au.2.1,s.2.2.1,au.2.2.1,()))
  else none
 else
  some (.inr (.inr (s.2.1,s.2.2.1,s.2.2.2.1,())))
def MG:=bN ze
def M3 (s:CE):Option CE:=
 let t0:=(i64.wrap (((List.length s.2.1):Int)-1))
 match MG (t0,s.1,s.2.1,s.2.2.1,()) with
 |none=>none
 |some (.inl aH)=>
  some (aH.1,aH.2.1,aH.2.2.1,())
 |some (.inr aH)=>
  some (aH.1,aH.2.1,aH.2.2.1,())
def BX (s:ah×List a6×Unit):Option (List ah×Unit):=
 match tX (([s.1]:List ah),()) with
 |none=>none
 |some aj=>
  match zE (s.2.1,()) with
  |none=>none
  |some au=>
   match M3 (0,au.1,aj.1,()) with
   |none=>none
   |some aL=>
    bif decide (aL.1=0) then
     some (aL.2.2.1,())
    else
     bif decide (aL.1=1) then
      some ([],())
     else none
def Pw (s:sa):Option (Bool×ah×Unit):=
 match rP (s.1,s.2.1,()) with
 |none=>none
 |some aj=>
  match j8 (aj.1,()) with
  |none=>none
  |some au=>
   some ((!au.1),s.2.1,())
def ya (s:List ak×List a6×Int×Int×Unit):Option ((List ak×List a6×Int×Int×Unit)⊕((List ak×Unit)⊕Unit)):=
 bif decide (s.2.2.2.1<s.2.2.1) then
  bif decide (0<=s.2.2.2.1)&&decide (s.2.2.2.1<(List.length s.2.1:Int)) then
   let t0:=(List.getD s.2.1 (Int.toNat s.2.2.2.1) (0,([],([],(([],([],())),([],([],(0,()))))))))
   match pS (s.1,t0,()) with
   |none=>none
   |some au=>
    let t2:=i64.wrap (s.2.2.2.1+1)
    some (.inl (au.1,s.2.1,s.2.2.1,t2,()))
  else none
 else
  some (.inr (.inl (s.1,())))
def KK:=bN ya
def uJ (s:List ak×List a6×Unit):Option (List ak×Unit):=
 match KK (s.1,s.2.1,((List.length s.2.1):Int),0,()) with
 |none=>none
 |some (.inl z0)=>
  some (z0.1,())
 |some (.inr z0)=>
  none
def Qh (s:ah×ak×Unit):Option (Bool×ak×Unit):=
 match pZ (s.1,s.2.1.1,()) with
 |none=>none
 |some aj=>
  some (aj.1,s.2.1,())
def zy (s:List ah×Int×Int×ak×Unit):Option ((List ah×Int×Int×ak×Unit)⊕((Int×ak×Unit)⊕(ak×Unit))):=
 bif decide (s.2.2.1<s.2.1) then
  bif decide (0<=s.2.2.1)&&decide (s.2.2.1<(List.length s.1:Int)) then
   let t0:=(List.getD s.1 (Int.toNat s.2.2.1) ([],([],())))
   match Qh (t0,s.2.2.2.1,()) with
   |none=>none
   |some au=>
    bif au.1 then
     some (.inr (.inl (s.2.2.1,au.2.1,())))
    else
     some (.inl (s.1,s.2.1,(i64.wrap (s.2.2.1+1)),au.2.1,()))
  else none
 else
  some (.inr (.inr (s.2.2.2.1,())))
def MI:=bN zy
def E1 (s:List ah×ak×Unit):Option (Int×ak×Unit):=
 match MI (s.1,((List.length s.1):Int),0,s.2.1,()) with
 |none=>none
 |some (.inl z0)=>
  some (z0.1,z0.2.1,())
 |some (.inr z0)=>
  some ((-1:Int),z0.1,())
def zf (s:List ah×ak×Unit):Option (Bool×ak×Unit):=
 match E1 (s.1,s.2.1,()) with
 |none=>none
 |some aj=>
  some ((decide (aj.1>=0)),aj.2.1,())
def Bn (s:ak×List ah×Unit):Option (Bool×List ah×Unit):=
 match zf (s.2.1,s.1,()) with
 |none=>none
 |some aj=>
  some ((!aj.1),s.2.1,())
def zn (s:CD):Option (CD⊕((Int×List ak×List ah×Unit)⊕uw)):=
 bif decide (s.2.1<s.1) then
  bif decide (0<=s.2.1)&&decide (s.2.1<(List.length s.2.2.1:Int)) then
   let t0:=(List.getD s.2.2.1 (Int.toNat s.2.1) ([],([],(0,()))))
   match Bn (t0,s.2.2.2.1,()) with
   |none=>none
   |some au=>
    bif au.1 then
     some (.inr (.inl (s.2.1,s.2.2.1,au.2.1,())))
    else
     some (.inl (s.1,(i64.wrap (s.2.1+1)),s.2.2.1,au.2.1,()))
  else none
 else
  some (.inr (.inr (s.2.2.1,s.2.2.2.1,())))
def M4:=bN zn
def ci (s:uw):Option (Int×List ak×List ah×Unit):=
 match M4 (((List.length s.1):Int),0,s.1,s.2.1,()) with
 |none=>none
 |some (.inl z0)=>
  some (z0.1,z0.2.1,z0.2.2.1,())
 |some (.inr z0)=>
  some ((-1:Int),z0.1,z0.2.1,())
def vc (s:CD):Option (CD⊕((Int×List ak×List ah×Unit)⊕Unit)):=
 let t0:=(decide (s.2.1<((List.length s.2.2.1):Int)))
 bif t0 then
  bif decide (0<=s.2.1)&&decide (s.2.1<(List.length s.2.2.1:Int)) then
   let t1:=(List.getD s.2.2.1 (Int.toNat s.2.1) ([],([],(0,()))))
   match Bn (t1,s.2.2.2.1,()) with
   |none=>none
   |some aL=>
    bif !aL.1 then
     bif decide (0<=s.1)&&decide (s.1<(List.length s.2.2.1:Int)) then
      some (.inl ((i64.wrap (s.1+1)),(i64.wrap (s.2.1+1)),(List.set s.2.2.1 (Int.toNat s.1) t1),aL.2.1,()))
     else none
    else
     some (.inl (s.1,(i64.wrap (s.2.1+1)),s.2.2.1,aL.2.1,()))
  else none
 else
  some (.inr (.inl (s.1,s.2.2.1,s.2.2.2.1,())))
def MV:=bN vc
def zr (s:uw):Option (List ah×List ak×Unit):=
 match ci (s.1,s.2.1,()) with
 |none=>none
 |some aj=>
  bif decide (aj.1=(-1:Int)) then
   some (aj.2.2.1,aj.2.1,())
  else
   match MV (aj.1,(i64.wrap (aj.1+1)),aj.2.1,aj.2.2.1,()) with
   |none=>none
   |some (.inl aH)=>
    bif (decide (0<=aH.1)&&decide (aH.1<=(List.length aH.2.1:Int))&&decide (((List.length aH.2.1:Int):Int)<=(List.length aH.2.1:Int))) then
     let t2:=(List.take (Int.toNat aH.1) aH.2.1++List.replicate ((Int.toNat (List.length aH.2.1:Int))-(Int.toNat aH.1)) (([]:af),(([]:af),((0:Int),())))++List.drop ((Int.toNat aH.1)+((Int.toNat (List.length aH.2.1:Int))-(Int.toNat aH.1))) aH.2.1)
     bif decide ((0:Int)<=aH.1)&&decide (aH.1<=(List.length t2:Int)) then
      some (aH.2.2.1,(List.take (Int.toNat aH.1) t2),())
     else none
    else none
   |some (.inr aH)=>
    none
def xi (s:uw):Option (List ak×Unit):=
 match sO (s.1,()) with
 |none=>none
 |some aj=>
  match zr (aj.1,s.2.1,()) with
  |none=>none
  |some au=>
   some (au.2.1,())
def Fi (s:ak×Int×List ak×Unit):Option (Bool×Int×List ak×Unit):=
 bif decide (s.2.1=0) then
  bif decide (s.2.1=0) then
   bif (decide ((List.length s.2.2.1+List.length ([s.1]:List ak))*40<=bm)) then
    let t0:List ak:=(s.2.2.1++([s.1]:List ak))
    some (true,0,t0,())
   else none
  else none
 else none
def ce (s:CC):Option (CC⊕((Int×List ah×ah×Unit)⊕qd)):=
 bif decide (s.2.1<s.1) then
  bif decide (0<=s.2.1)&&decide (s.2.1<(List.length s.2.2.1:Int)) then
   let t0:=(List.getD s.2.2.1 (Int.toNat s.2.1) ([],([],())))
   match Pw (t0,s.2.2.2.1,()) with
   |none=>none
   |some au=>
    bif au.1 then
     some (.inr (.inl (s.2.1,s.2.2.1,au.2.1,())))
    else
     some (.inl (s.1,(i64.wrap (s.2.1+1)),s.2.2.1,au.2.1,()))
  else none
 else
  some (.inr (.inr (s.2.2.1,s.2.2.2.1,())))
def MJ:=bN ce
def E2 (s:qd):Option (Int×List ah×ah×Unit):=
 match MJ (((List.length s.1):Int),0,s.1,s.2.1,()) with
 |none=>none
 |some (.inl z0)=>
  some (z0.1,z0.2.1,z0.2.2.1,())
 |some (.inr z0)=>
  some ((-1:Int),z0.1,z0.2.1,())
def zg (s:qd):Option (Bool×List ah×ah×Unit):=
 match E2 (s.1,s.2.1,()) with
 |none=>none
 |some aj=>
  some ((decide (aj.1>=0)),aj.2.1,aj.2.2.1,())
def Fh (cv:lM->Option (List ak×bO×Int×Unit)) (s:Rp):Option (r6⊕(k7⊕k7)):=
 bif s.2.2.1 then
  some (.inr (.inl (s.2.2.2.1,s.2.2.2.2.1,s.2.2.2.2.2.1,s.2.2.2.2.2.2.1,s.2.2.2.2.2.2.2.1,s.2.2.2.2.2.2.2.2.1,s.2.2.2.2.2.2.2.2.2.2.1,())))
 else
  some (.inl (s.1,(i64.wrap (s.2.1+1)),s.2.2.2.1,s.2.2.2.2.1,s.2.2.2.2.2.1,s.2.2.2.2.2.2.1,s.2.2.2.2.2.2.2.1,s.2.2.2.2.2.2.2.2.1,s.2.2.2.2.2.2.2.2.2.1,s.2.2.2.2.2.2.2.2.2.2.1,()))
def qB (cv:lM->Option (List ak×bO×Int×Unit)) (s:r6):Option (r6⊕(k7⊕k7)):=
 bif decide (s.2.1<s.1) then
  bif decide (0<=s.2.1)&&decide (s.2.1<(List.length s.2.2.2.2.2.2.2.2.1:Int)) then
   let t0:=(List.getD s.2.2.2.2.2.2.2.2.1 (Int.toNat s.2.1) ([],([],(0,()))))
   let t1:=(!decide (s.2.2.2.2.2.2.2.1=0))
   bif !t1 then
    match Fi (t0,s.2.2.1,s.2.2.2.2.2.2.2.2.2.1,()) with
    |none=>none
    |some aL=>
     Fh cv (s.1,s.2.1,(!aL.1),aL.2.1,s.2.2.2.1,s.2.2.2.2.1,s.2.2.2.2.2.1,s.2.2.2.2.2.2.1,s.2.2.2.2.2.2.2.1,s.2.2.2.2.2.2.2.2.1,aL.2.2.1,())
   else
    Fh cv (s.1,s.2.1,true,s.2.2.1,s.2.2.2.1,s.2.2.2.2.1,s.2.2.2.2.2.1,s.2.2.2.2.2.2.1,s.2.2.2.2.2.2.2.1,s.2.2.2.2.2.2.2.2.1,s.2.2.2.2.2.2.2.2.2.1,())
  else none
 else
  some (.inr (.inr (s.2.2.1,s.2.2.2.1,s.2.2.2.2.1,s.2.2.2.2.2.1,s.2.2.2.2.2.2.1,s.2.2.2.2.2.2.2.1,s.2.2.2.2.2.2.2.2.2.1,())))
def vq (cv:lM->Option (List ak×bO×Int×Unit)) (s:r6):Option (k7⊕k7):=bN (qB cv) s
def vp (cv:lM->Option (List ak×bO×Int×Unit)) (s:List ak×Int×Int×ah×List ah×bO×Int×List ak×Unit):Option k7:=
 match xi (s.1,s.2.2.2.2.1,()) with
 |none=>none
 |some aj=>
  match vq cv (((List.length aj.1):Int),0,s.2.1,s.2.2.1,s.2.2.2.1,s.2.2.2.2.1,s.2.2.2.2.2.1,s.2.2.2.2.2.2.1,aj.1,s.2.2.2.2.2.2.2.1,()) with
  |none=>none
  |some (.inl aH)=>
   some (aH.1,aH.2.1,aH.2.2.1,aH.2.2.2.1,aH.2.2.2.2.1,aH.2.2.2.2.2.1,aH.2.2.2.2.2.2.1,())
  |some (.inr aH)=>
   some (aH.1,aH.2.1,aH.2.2.1,aH.2.2.2.1,aH.2.2.2.2.1,aH.2.2.2.2.2.1,aH.2.2.2.2.2.2.1,())
def qD (cv:lM->Option (List ak×bO×Int×Unit)) (s:k7):Option k7:=
 match kh (s.2.2.2.2.1,s.2.1,()) with
 |none=>none
 |some aj=>
  bif (!decide (aj.2.1=0)) then
   some (s.1,s.2.1,s.2.2.1,s.2.2.2.1,s.2.2.2.2.1,aj.2.1,s.2.2.2.2.2.2.1,())
  else
   match rQ (aj.1,()) with
   |none=>none
   |some au=>
    bif !au.1 then
     match cv (aj.1,s.2.2.1,s.2.2.2.1,s.2.2.2.2.1,s.2.2.2.2.2.1,()) with
     |none=>none
     |some aL=>
      match uJ (aL.1,aj.1.2.2.2.2.1,()) with
      |none=>none
      |some bF=>
       vp cv (bF.1,s.1,s.2.1,s.2.2.1,s.2.2.2.1,aL.2.1,aL.2.2.1,s.2.2.2.2.2.2.1,())
    else
     vp cv (aj.1.1,s.1,s.2.1,s.2.2.1,s.2.2.2.1,s.2.2.2.2.1,s.2.2.2.2.2.1,s.2.2.2.2.2.2.1,())
def vB (cv:lM->Option (List ak×bO×Int×Unit)) (s:HO):Option (HO⊕((List ak×bO×Int×bs×ah×List ah×Unit)⊕Unit)):=
 bif decide (s.2.2.2.1<s.2.2.1) then
  bif decide (0<=s.2.2.2.1)&&decide (s.2.2.2.1<(List.length s.2.1:Int)) then
   let t0:=(List.getD s.2.1 (Int.toNat s.2.2.2.1) ([],([],())))
   match BX (t0,s.2.2.2.2.2.2.1.2.2.2.2.1,()) with
   |none=>none
   |some au=>
    bif decide ((List.length s.2.2.2.2.2.2.2.2.1+List.length au.1)*32<=bm) then
     let t2:=i64.wrap (s.2.2.2.1+1)
     some (.inl (s.1,s.2.1,s.2.2.1,t2,s.2.2.2.2.1,s.2.2.2.2.2.1,s.2.2.2.2.2.2.1,s.2.2.2.2.2.2.2.1,(s.2.2.2.2.2.2.2.2.1++au.1),()))
    else none
  else none
 else
  some (.inr (.inl (s.1,s.2.2.2.2.1,s.2.2.2.2.2.1,s.2.2.2.2.2.2.1,s.2.2.2.2.2.2.2.1,s.2.2.2.2.2.2.2.2.1,())))
def FV (cv:lM->Option (List ak×bO×Int×Unit)) (s:HO):Option ((List ak×bO×Int×bs×ah×List ah×Unit)⊕Unit):=bN (vB cv) s
def sR (cv:lM->Option (List ak×bO×Int×Unit)) (s:HP):Option (HP⊕((List ak×bO×Int×Unit)⊕(bO×Int×List ak×Unit))):=
 bif decide (s.2.2.1<s.2.1) then
  bif decide (0<=s.2.2.1)&&decide (s.2.2.1<(List.length s.2.2.2.2.2.2.2.1:Int)) then
   let t0:=(List.getD s.2.2.2.2.2.2.2.1 (Int.toNat s.2.2.1) ([],([],())))
   match zg (s.2.2.2.2.2.2.1,t0,()) with
   |none=>none
   |some au=>
    bif !au.1 then
     some (.inl (s.1,s.2.1,(i64.wrap (s.2.2.1+1)),s.2.2.2.1,s.2.2.2.2.1,s.2.2.2.2.2.1,au.2.1,s.2.2.2.2.2.2.2.1,s.2.2.2.2.2.2.2.2.1,()))
    else
     bif decide (0<=s.2.2.1)&&decide (s.2.2.1<(List.length s.2.2.2.2.2.1.2.2.1:Int)) then
      let t2:=(List.getD s.2.2.2.2.2.1.2.2.1 (Int.toNat s.2.2.1) 0)
      match pa (t2,au.2.2.1,au.2.1,s.2.2.2.1,s.2.2.2.2.1,()) with
      |none=>none
      |some bF=>
       match qD cv (0,bF.2.2.1,bF.2.2.2.1,bF.2.2.2.2.1,bF.1,bF.2.1,s.2.2.2.2.2.2.2.2.1,()) with
       |none=>none
       |some cN=>
        bif decide (cN.1=0) then
         some (.inl (s.1,s.2.1,(i64.wrap (s.2.2.1+1)),cN.2.2.2.2.1,cN.2.2.2.2.2.1,s.2.2.2.2.2.1,au.2.1,s.2.2.2.2.2.2.2.1,cN.2.2.2.2.2.2.1,()))
        else
         bif decide (cN.1=1) then
          some (.inr (.inl (s.1,cN.2.2.2.2.1,cN.2.2.2.2.2.1,())))
         else none
     else none
  else none
 else
  some (.inr (.inr (s.2.2.2.1,s.2.2.2.2.1,s.2.2.2.2.2.2.2.2.1,())))
def FW (cv:lM->Option (List ak×bO×Int×Unit)) (s:HP):Option ((List ak×bO×Int×Unit)⊕(bO×Int×List ak×Unit)):=bN (sR cv) s
def ii (cv:lM->Option (List ak×bO×Int×Unit)) (s:lM):Option (List ak×bO×Int×Unit):=
 match FV cv ([],s.2.2.1,((List.length s.2.2.1):Int),0,s.2.2.2.1,s.2.2.2.2.1,s.1,s.2.1,[],()) with
 |none=>none
 |some (.inl z0)=>
  match yb (z0.2.2.2.1,z0.2.2.2.2.1,()) with
  |none=>none
  |some au=>
   match FW cv (z0.1,((List.length au.1):Int),0,z0.2.1,z0.2.2.1,z0.2.2.2.1,z0.2.2.2.2.2.1,au.1,[],()) with
   |none=>none
   |some (.inl z2)=>
    some (z2.1,z2.2.1,z2.2.2.1,())
   |some (.inr z2)=>
    some (z2.2.2.1,z2.1,z2.2.1,())
 |some (.inr z0)=>
  none
def o7:Nat->lM->Option (List ak×bO×Int×Unit)
 |0,_=>none
 |n+1,s=>ii (o7 n) s
def Gf (s:lM):Option (List ak×bO×Int×Unit):=o7 jB s
def F2 (s:ak×Int×List ak×Unit):Option (Bool×Int×List ak×Unit):=
 bif decide (s.2.1=0) then
  bif decide (s.2.1=0) then
   bif (decide ((List.length s.2.2.1+List.length ([s.1]:List ak))*40<=bm)) then
    let t0:List ak:=(s.2.2.1++([s.1]:List ak))
    some (true,0,t0,())
   else none
  else none
 else none
def FN (s:Rp):Option (r6⊕(k7⊕k7)):=
 bif s.2.2.1 then
  some (.inr (.inl (s.2.2.2.1,s.2.2.2.2.1,s.2.2.2.2.2.1,s.2.2.2.2.2.2.1,s.2.2.2.2.2.2.2.1,s.2.2.2.2.2.2.2.2.1,s.2.2.2.2.2.2.2.2.2.2.1,())))
 else
  some (.inl (s.1,(i64.wrap (s.2.1+1)),s.2.2.2.1,s.2.2.2.2.1,s.2.2.2.2.2.1,s.2.2.2.2.2.2.1,s.2.2.2.2.2.2.2.1,s.2.2.2.2.2.2.2.2.1,s.2.2.2.2.2.2.2.2.2.1,s.2.2.2.2.2.2.2.2.2.2.1,()))
def sP (s:r6):Option (r6⊕(k7⊕k7)):=
 bif decide (s.2.1<s.1) then
  bif decide (0<=s.2.1)&&decide (s.2.1<(List.length s.2.2.2.2.2.2.2.2.1:Int)) then
   let t0:=(List.getD s.2.2.2.2.2.2.2.2.1 (Int.toNat s.2.1) ([],([],(0,()))))
   let t1:=(!decide (s.2.2.2.2.2.2.2.1=0))
   bif !t1 then
    match F2 (t0,s.2.2.1,s.2.2.2.2.2.2.2.2.2.1,()) with
    |none=>none
    |some aL=>
     FN (s.1,s.2.1,(!aL.1),aL.2.1,s.2.2.2.1,s.2.2.2.2.1,s.2.2.2.2.2.1,s.2.2.2.2.2.2.1,s.2.2.2.2.2.2.2.1,s.2.2.2.2.2.2.2.2.1,aL.2.2.1,())
   else
    FN (s.1,s.2.1,true,s.2.2.1,s.2.2.2.1,s.2.2.2.2.1,s.2.2.2.2.2.1,s.2.2.2.2.2.2.1,s.2.2.2.2.2.2.2.1,s.2.2.2.2.2.2.2.2.1,s.2.2.2.2.2.2.2.2.2.1,())
  else none
 else
  some (.inr (.inr (s.2.2.1,s.2.2.2.1,s.2.2.2.2.1,s.2.2.2.2.2.1,s.2.2.2.2.2.2.1,s.2.2.2.2.2.2.2.1,s.2.2.2.2.2.2.2.2.2.1,())))
def vv:=bN sP
def sT (s:Int×Int×ah×List ah×bO×Int×Unit):Option k7:=
 match kh (s.2.2.2.2.1,s.2.1,()) with
 |none=>none
 |some aj=>
  bif (!decide (aj.2.1=0)) then
   some (s.1,s.2.1,s.2.2.1,s.2.2.2.1,s.2.2.2.2.1,aj.2.1,[],())
  else
   match rQ (aj.1,()) with
   |none=>none
   |some au=>
    bif !au.1 then
     match Gf (aj.1,s.2.2.1,s.2.2.2.1,s.2.2.2.2.1,s.2.2.2.2.2.1,()) with
     |none=>none
     |some aL=>
      match uJ (aL.1,aj.1.2.2.2.2.1,()) with
      |none=>none
      |some bF=>
       match xi (bF.1,s.2.2.2.1,()) with
       |none=>none
       |some cN=>
        match vv (((List.length cN.1):Int),0,s.1,s.2.1,s.2.2.1,s.2.2.2.1,aL.2.1,aL.2.2.1,cN.1,[],()) with
        |none=>none
        |some (.inl z5)=>
         some (z5.1,z5.2.1,z5.2.2.1,z5.2.2.2.1,z5.2.2.2.2.1,z5.2.2.2.2.2.1,z5.2.2.2.2.2.2.1,())
        |some (.inr z5)=>
         some (z5.1,z5.2.1,z5.2.2.1,z5.2.2.2.1,z5.2.2.2.2.1,z5.2.2.2.2.2.1,z5.2.2.2.2.2.2.1,())
    else
     match xi (aj.1.1,s.2.2.2.1,()) with
     |none=>none
     |some aL=>
      match vv (((List.length aL.1):Int),0,s.1,s.2.1,s.2.2.1,s.2.2.2.1,s.2.2.2.2.1,s.2.2.2.2.2.1,aL.1,[],()) with
      |none=>none
      |some (.inl z3)=>
       some (z3.1,z3.2.1,z3.2.2.1,z3.2.2.2.1,z3.2.2.2.2.1,z3.2.2.2.2.2.1,z3.2.2.2.2.2.2.1,())
      |some (.inr z3)=>
       some (z3.1,z3.2.1,z3.2.2.1,z3.2.2.2.1,z3.2.2.2.2.1,z3.2.2.2.2.2.1,z3.2.2.2.2.2.2.1,())
def kP (s:ct×ah×Unit):Option (Int×List ak×Unit):=
 match pa (s.1.2.1,([],([],())),([s.2.1]:List ah),s.1.1,0,()) with
 |none=>none
 |some aj=>
  match sT (0,aj.2.2.1,aj.2.2.2.1,aj.2.2.2.2.1,aj.1,aj.2.1,()) with
  |none=>none
  |some au=>
   bif decide (au.1=0) then
    let t2:=(!decide (au.2.2.2.2.2.1=0))
    bif t2 then
     some (au.2.2.2.2.2.1,[],())
    else
     some (0,au.2.2.2.2.2.2.1,())
   else
    bif decide (au.1=1) then
     some (0,[],())
    else none
def Bu (s:List ak×List ak×Int×Unit):Option ((List ak×List ak×Int×Unit)⊕((Bool×Unit)⊕Unit)):=
 let t0:=(decide (s.2.2.1<((List.length s.1):Int)))
 bif t0 then
  bif decide (0<=s.2.2.1)&&decide (s.2.2.1<(List.length s.1:Int)) then
   let t1:=(List.getD s.1 (Int.toNat s.2.2.1) ([],([],(0,()))))
   bif decide (0<=s.2.2.1)&&decide (s.2.2.1<(List.length s.2.1:Int)) then
    let t2:=(List.getD s.2.1 (Int.toNat s.2.2.1) ([],([],(0,()))))
    let t3:=(!(aD.eqb ba t1 t2))
    bif t3 then
     some (.inr (.inl (false,())))
    else
     some (.inl (s.1,s.2.1,(i64.wrap (s.2.2.1+1)),()))
   else none
  else none
 else
  some (.inr (.inr (())))
def Jn:=bN Bu
def xk (s:xZ):Option (Bool×Unit):=
 let t0:=(!decide ((((List.length s.1):Int):Int)=((List.length s.2.1):Int)))
 bif t0 then
  some (false,())
 else
  match Jn (s.1,s.2.1,0,()) with
  |none=>none
  |some (.inl aH)=>
   some (aH.1,())
  |some (.inr aH)=>
   some (true,())
def Tx (s:Int×Int×List ly×Unit):Option ((Int×Int×List ly×Unit)⊕((Bool×Unit)⊕Unit)):=
 bif decide (s.2.1<s.1) then
  bif decide (0<=s.2.1)&&decide (s.2.1<(List.length s.2.2.1:Int)) then
   let t0:=(List.getD s.2.2.1 (Int.toNat s.2.1) (0,(0,())))
   bif (!(decide (t0.1<0))) then
    bif (!(decide (t0.1>t0.2.1))) then
     let t1:=decide (t0.2.1>1000000000000000)
     bif t1 then
      some (.inr (.inl (false,())))
     else
      some (.inl (s.1,(i64.wrap (s.2.1+1)),s.2.2.1,()))
    else
     some (.inr (.inl (false,())))
   else
    some (.inr (.inl (false,())))
  else none
 else
  some (.inr (.inr (())))
def Tz:=bN Tx
def V9 (s:dX×Unit):Option (Bool×Unit):=
 let t0:Int:=((List.length ([s.1.1,s.1.2.1]:List ly)):Int)
 match Tz (t0,0,([s.1.1,s.1.2.1]:List ly),()) with
 |none=>none
 |some (.inl aH)=>
  some (aH.1,())
 |some (.inr aH)=>
  some (true,())
def Vy (s:List ak×Int×Unit):Option ((List ak×Int×Unit)⊕((Bool×Unit)⊕Unit)):=
 let t0:=(decide (s.2.1<((List.length s.1):Int)))
 bif t0 then
  bif (decide (0<=(i64.wrap (s.2.1-1)))&&decide (((i64.wrap (s.2.1-1)):Int)<(List.length s.1:Int))) then
   let t1:=(List.getD s.1 (Int.toNat (i64.wrap (s.2.1-1))) ([],([],(0,()))))
   bif decide (0<=s.2.1)&&decide (s.2.1<(List.length s.1:Int)) then
    let t2:=(List.getD s.1 (Int.toNat s.2.1) ([],([],(0,()))))
    bif (!(Op.bytesLess t1.1 t2.1)) then
     some (.inr (.inl (false,())))
    else
     some (.inl (s.1,(i64.wrap (s.2.1+1)),()))
   else none
  else none
 else
  some (.inr (.inr (())))
def VA:=bN Vy
def Yh (s:List ak×Unit):Option (Bool×Unit):=
 match VA (s.1,1,()) with
 |none=>none
 |some (.inl z0)=>
  some (z0.1,())
 |some (.inr z0)=>
  some (true,())
def V8 (s:ak×Unit):Option (Bool×Unit):=
 let t0:=(decide ((((List.length s.1.1):Int):Int)>=1))
 bif t0 then
  let t1:=(decide ((((List.length s.1.1):Int):Int)<=65535))
  bif t1 then
   let t2:=(decide ((((List.length s.1.2.1):Int):Int)<=64))
   bif t2 then
    bif decide (s.1.2.2.1>=0) then
     let t3:=decide (s.1.2.2.1<=1000000000)
     some (t3,())
    else
     some (false,())
   else
    some (false,())
  else
   some (false,())
 else
  some (false,())
def XH (s:ak×ah×Unit):Option (Bool×ah×Unit):=
 match V8 (s.1,()) with
 |none=>none
 |some aj=>
  bif (!(!aj.1)) then
   match pZ (s.2.1,s.1.1,()) with
   |none=>none
   |some au=>
    some ((!au.1),s.2.1,())
  else
   some (true,s.2.1,())
def adf (s:List ak×Int×Int×ah×Unit):Option ((List ak×Int×Int×ah×Unit)⊕((Int×ah×Unit)⊕(ah×Unit))):=
 bif decide (s.2.2.1<s.2.1) then
  bif decide (0<=s.2.2.1)&&decide (s.2.2.1<(List.length s.1:Int)) then
   let t0:=(List.getD s.1 (Int.toNat s.2.2.1) ([],([],(0,()))))
   match XH (t0,s.2.2.2.1,()) with
   |none=>none
   |some au=>
    bif au.1 then
     some (.inr (.inl (s.2.2.1,au.2.1,())))
    else
     some (.inl (s.1,s.2.1,(i64.wrap (s.2.2.1+1)),au.2.1,()))
  else none
 else
  some (.inr (.inr (s.2.2.2.1,())))
def adh:=bN adf
def adC (s:uA):Option (Int×ah×Unit):=
 match adh (s.1,((List.length s.1):Int),0,s.2.1,()) with
 |none=>none
 |some (.inl z0)=>
  some (z0.1,z0.2.1,())
 |some (.inr z0)=>
  some ((-1:Int),z0.1,())
def adA (s:uA):Option (Bool×ah×Unit):=
 match adC (s.1,s.2.1,()) with
 |none=>none
 |some aj=>
  some ((decide (aj.1>=0)),aj.2.1,())
def Ji (s:a6×Unit):Option (List ah×Unit):=
 some ([],())
def Jd (s:a6×Unit):Option (List ah×Unit):=
 some ([],())
def IG (s:a6×Unit):Option (List ah×Unit):=
 some ([],())
def II (s:a6×Unit):Option (List ah×Unit):=
 match kT (s.1.2.2.2.2.1,()) with
 |none=>none
 |some aj=>
  some (([aj.1]:List ah),())
def Qq (s:a6×Unit):Option (List ah×Unit):=
 match kT (s.1.2.2.2.2.1,()) with
 |none=>none
 |some aj=>
  some (([aj.1]:List ah),())
def Qv (s:a6×Unit):Option (List ah×Unit):=
 some (([s.1.2.2.2.1]:List ah),())
def pT (s:a6×Unit):Option (List ah×Unit):=
 bif decide (s.1.1=1) then
  match Ji (s.1,()) with
  |none=>none
  |some aj=>
   some (aj.1,())
 else
  bif decide (s.1.1=2) then
   match Jd (s.1,()) with
   |none=>none
   |some aj=>
    some (aj.1,())
  else
   bif decide (s.1.1=3) then
    match IG (s.1,()) with
    |none=>none
    |some aj=>
     some (aj.1,())
   else
    bif decide (s.1.1=4) then
     match II (s.1,()) with
     |none=>none
     |some aj=>
      some (aj.1,())
    else
     bif decide (s.1.1=5) then
      match Qq (s.1,()) with
      |none=>none
      |some aj=>
       some (aj.1,())
     else
      bif decide (s.1.1=6) then
       match Qv (s.1,()) with
       |none=>none
       |some aj=>
        some (aj.1,())
      else
       some ([],())
def Yf (s:sa):Option (Bool×Unit):=
 match j8 (s.2.1,()) with
 |none=>none
 |some aj=>
  bif !aj.1 then
   match pZ (s.1,s.2.1.1,()) with
   |none=>none
   |some au=>
    bif au.1 then
     match wy (s.1.2.1,s.2.1.2.1,()) with
     |none=>none
     |some aL=>
      some ((decide (aL.1>=0)),())
    else
     some (false,())
  else
   some (true,())
def Kc (s:sa):Option (Bool×ah×Unit):=
 match Yf (s.2.1,s.1,()) with
 |none=>none
 |some aj=>
  some ((!aj.1),s.2.1,())
def adl (s:List ah×Int×Int×ah×Unit):Option ((List ah×Int×Int×ah×Unit)⊕((Int×ah×Unit)⊕(ah×Unit))):=
 bif decide (s.2.2.1<s.2.1) then
  bif decide (0<=s.2.2.1)&&decide (s.2.2.1<(List.length s.1:Int)) then
   let t0:=(List.getD s.1 (Int.toNat s.2.2.1) ([],([],())))
   match Kc (t0,s.2.2.2.1,()) with
   |none=>none
   |some au=>
    bif au.1 then
     some (.inr (.inl (s.2.2.1,au.2.1,())))
    else
     some (.inl (s.1,s.2.1,(i64.wrap (s.2.2.1+1)),au.2.1,()))
  else none
 else
  some (.inr (.inr (s.2.2.2.1,())))
def acN:=bN adl
def adG (s:qd):Option (Int×ah×Unit):=
 match acN (s.1,((List.length s.1):Int),0,s.2.1,()) with
 |none=>none
 |some (.inl z0)=>
  some (z0.1,z0.2.1,())
 |some (.inr z0)=>
  some ((-1:Int),z0.1,())
def jp (s:qd):Option (Bool×ah×Unit):=
 match adG (s.1,s.2.1,()) with
 |none=>none
 |some aj=>
  some ((decide (aj.1>=0)),aj.2.1,())
def acO (s:CC):Option (CC⊕((Int×List ah×ah×Unit)⊕qd)):=
 bif decide (s.2.1<s.1) then
  bif decide (0<=s.2.1)&&decide (s.2.1<(List.length s.2.2.1:Int)) then
   let t0:=(List.getD s.2.2.1 (Int.toNat s.2.1) ([],([],())))
   match Kc (t0,s.2.2.2.1,()) with
   |none=>none
   |some au=>
    bif au.1 then
     some (.inr (.inl (s.2.1,s.2.2.1,au.2.1,())))
    else
     some (.inl (s.1,(i64.wrap (s.2.1+1)),s.2.2.1,au.2.1,()))
  else none
 else
  some (.inr (.inr (s.2.2.1,s.2.2.2.1,())))
def acQ:=bN acO
def adH (s:qd):Option (Int×List ah×ah×Unit):=
 match acQ (((List.length s.1):Int),0,s.1,s.2.1,()) with
 |none=>none
 |some (.inl z0)=>
  some (z0.1,z0.2.1,z0.2.2.1,())
 |some (.inr z0)=>
  some ((-1:Int),z0.1,z0.2.1,())
def ade (s:qd):Option (Bool×List ah×ah×Unit):=
 match adH (s.1,s.2.1,()) with
 |none=>none
 |some aj=>
  some ((decide (aj.1>=0)),aj.2.1,aj.2.2.1,())
def XI (s:a6×ah×Unit):Option (Bool×ah×Unit):=
 match ou (s.1,()) with
 |none=>none
 |some aj=>
  bif (!(!aj.1)) then
   match pT (s.1,()) with
   |none=>none
   |some au=>
    match jp (au.1,s.2.1,()) with
    |none=>none
    |some aL=>
     bif !aL.1 then
      match om (s.1,()) with
      |none=>none
      |some bF=>
       match ade (bF.1,aL.2.1,()) with
       |none=>none
       |some cN=>
        some (cN.1,cN.2.2.1,())
     else
      some (true,aL.2.1,())
  else
   some (true,s.2.1,())
def adR (s:List a6×Int×Int×ah×Unit):Option ((List a6×Int×Int×ah×Unit)⊕((Int×ah×Unit)⊕(ah×Unit))):=
 bif decide (s.2.2.1<s.2.1) then
  bif decide (0<=s.2.2.1)&&decide (s.2.2.1<(List.length s.1:Int)) then
   let t0:=(List.getD s.1 (Int.toNat s.2.2.1) (0,([],([],(([],([],())),([],([],(0,()))))))))
   match XI (t0,s.2.2.2.1,()) with
   |none=>none
   |some au=>
    bif au.1 then
     some (.inr (.inl (s.2.2.1,au.2.1,())))
    else
     some (.inl (s.1,s.2.1,(i64.wrap (s.2.2.1+1)),au.2.1,()))
  else none
 else
  some (.inr (.inr (s.2.2.2.1,())))
def adT:=bN adR
def adZ (s:List a6×ah×Unit):Option (Int×ah×Unit):=
 match adT (s.1,((List.length s.1):Int),0,s.2.1,()) with
 |none=>none
 |some (.inl z0)=>
  some (z0.1,z0.2.1,())
 |some (.inr z0)=>
  some ((-1:Int),z0.1,())
def adY (s:List a6×ah×Unit):Option (Bool×ah×Unit):=
 match adZ (s.1,s.2.1,()) with
 |none=>none
 |some aj=>
  some ((decide (aj.1>=0)),aj.2.1,())
def V4 (s:Rc):Option (Rc⊕((Bool×Unit)⊕xY)):=
 bif decide (s.2.2.2.1<s.2.2.1) then
  bif decide (0<=s.2.2.2.1)&&decide (s.2.2.2.1<(List.length s.2.1:Int)) then
   let t0:=(List.getD s.2.1 (Int.toNat s.2.2.2.1) [])
   let t1:=(Op.bytesLess t0 s.1||decide ((t0:af)=s.1))
   bif !t1 then
    let t2:=(!decide ((s.2.2.2.2.2.1.2.1:af)=[]))
    bif t2 then
     bif (!(Op.bytesLess t0 s.2.2.2.2.2.1.2.1)) then
      some (.inr (.inl (false,())))
     else
      let t3:=i64.wrap (s.2.2.2.1+1)
      some (.inl (t0,s.2.1,s.2.2.1,t3,s.2.2.2.2.1,s.2.2.2.2.2.1,()))
    else
     let t3:=i64.wrap (s.2.2.2.1+1)
     some (.inl (t0,s.2.1,s.2.2.1,t3,s.2.2.2.2.1,s.2.2.2.2.2.1,()))
   else
    some (.inr (.inl (false,())))
  else none
 else
  some (.inr (.inr (s.2.2.2.2.1,s.2.2.2.2.2.1,())))
def V6:=bN V4
def V5 (s:RG):Option (RG⊕((Bool×Unit)⊕xY)):=
 bif decide (s.2.2.1<s.2.1) then
  bif decide (0<=s.2.2.1)&&decide (s.2.2.1<(List.length s.1:Int)) then
   let t0:=(List.getD s.1 (Int.toNat s.2.2.1) 0)
   bif (!(decide (t0<0))) then
    bif (!(decide (t0>=4096))) then
     bif decide (0<=s.2.2.1)&&decide (s.2.2.1<(List.length s.2.2.2.1.2.2.2.1:Int)) then
      let t1:=(List.getD s.2.2.2.1.2.2.2.1 (Int.toNat s.2.2.1) ((0,(0,())),((0,(0,())),())))
      match V9 (t1,()) with
      |none=>none
      |some aL=>
       bif !aL.1 then
        some (.inr (.inl (false,())))
       else
        some (.inl (s.1,s.2.1,(i64.wrap (s.2.2.1+1)),s.2.2.2.1,s.2.2.2.2.1,()))
     else none
    else
     some (.inr (.inl (false,())))
   else
    some (.inr (.inl (false,())))
  else none
 else
  some (.inr (.inr (s.2.2.2.1,s.2.2.2.2.1,())))
def V7:=bN V5
def Jl (s:Bool×bs×ah×Unit):Option (Bool×Unit):=
 bif s.1 then
  some (false,())
 else
  match V6 (s.2.2.1.1,s.2.1.2.1,((List.length s.2.1.2.1):Int),0,s.2.1,s.2.2.1,()) with
  |none=>none
  |some (.inl z0)=>
   some (z0.1,())
  |some (.inr z0)=>
   match V7 (z0.1.2.2.1,((List.length z0.1.2.2.1):Int),0,z0.1,z0.2.1,()) with
   |none=>none
   |some (.inl aH)=>
    some (aH.1,())
   |some (.inr aH)=>
    match adY (aH.1.2.2.2.2.1,aH.2.1,()) with
    |none=>none
    |some aL=>
     some ((!aL.1),())
def YF (s:xY):Option (Bool×Unit):=
 let t0:=(decide ((((List.length s.1.2.2.1):Int):Int)=0))
 bif t0 then
  let t1:=(i64.wrap (((List.length s.1.2.1):Int)+((List.length s.1.2.2.2.1):Int)))
  let t2:=(i64.wrap (t1+((List.length s.1.2.2.2.2.1):Int)))
  bif decide (t2=0) then
   match Yh (s.1.1,()) with
   |none=>none
   |some bF=>
    bif bF.1 then
     match adA (s.1.1,s.2.1,()) with
     |none=>none
     |some cN=>
      some ((!cN.1),())
    else
     some (false,())
  else
   some (false,())
 else
  let t1:=(decide ((((List.length s.1.1):Int):Int)>0))
  bif !t1 then
   let t2:=(!decide ((((List.length s.1.2.2.2.1):Int):Int)=((List.length s.1.2.2.1):Int)))
   bif !t2 then
    let t3:=(i64.wrap (((List.length s.1.2.2.1):Int)-1))
    let t4:=(!decide ((((List.length s.1.2.1):Int):Int)=t3))
    Jl (t4,s.1,s.2.1,())
   else
    Jl (true,s.1,s.2.1,())
  else
   Jl (true,s.1,s.2.1,())
def xj (s:m4):Option (Int×Int×Int×Int×Unit):=
 let t0:Int:=(if ((i64.wrap (s.2.2.1+s.1)):Int)<0 then 0 else (i64.wrap (s.2.2.1+s.1)))
 let t1:Int:=(if (1000000000000000:Int)<t0 then 1000000000000000 else t0)
 let t2:Int:=(if (1000000000000000:Int)<(i64.wrap (s.2.2.2.1+s.2.1)) then 1000000000000000 else (i64.wrap (s.2.2.2.1+s.2.1)))
 some (t1,t2,s.2.2.2.2.1,s.2.2.2.2.2.1,())
def wO (s:m4):Option (Int×Int×Int×Int×Unit):=
 let t0:Int:=(if ((i64.wrap (s.2.2.2.2.1+s.1)):Int)<0 then 0 else (i64.wrap (s.2.2.2.2.1+s.1)))
 let t1:Int:=(if (1000000000000000:Int)<t0 then 1000000000000000 else t0)
 let t2:=i64.wrap (s.2.2.2.2.2.1+s.2.1)
 let t3:Int:=(if (1000000000000000:Int)<t2 then 1000000000000000 else t2)
 some (s.2.2.1,s.2.2.2.1,t1,t3,())
def OY (s:hh):Option (Int×Unit):=some ((fun a c=>Lib.indexByte a c.toNat.toUInt8) s.1 s.2.1,())
def Sx (s:hh):Option (Int×Unit):=
 match OY (s.1,s.2.1,()) with
 |none=>none
 |some aj=>
  some (aj.1,())
def ae1 (s:Int×Unit):Option (Bool×Unit):=
 bif decide ((0:Int)<=s.1) then
  bif decide (s.1<55296) then
   some (true,())
  else
   bif decide ((57343:Int)<s.1) then
    bif decide (s.1<=1114111) then
     some (true,())
    else
     some (false,())
   else
    some (false,())
 else
  bif decide ((57343:Int)<s.1) then
   bif decide (s.1<=1114111) then
    some (true,())
   else
    some (false,())
  else
   some (false,())
def aff (s:hh):Option (hh⊕((Int×Unit)⊕Unit)):=
 bif decide (s.2.1<(List.length s.1:Int)) then
  let t0:=(decide (((mZ s.1 s.2.1).1:Int)=65533))
  bif t0 then
   some (.inr (.inl (s.2.1,())))
  else
   some (.inl (s.1,(s.2.1+(mZ s.1 s.2.1).2),()))
 else
  some (.inr (.inr (())))
def afi:=bN aff
def afh (s:HY):Option (Int×Unit):=
 bif s.2.2.1 then
  match Sx (s.1,(IntKind.u8.wrap s.2.1),()) with
  |none=>none
  |some aj=>
   some (aj.1,())
 else
  bif decide (s.2.1=65533) then
   match afi (s.1,0,()) with
   |none=>none
   |some (.inl z0)=>
    some (z0.1,())
   |some (.inr z0)=>
    some ((-1:Int),())
  else
   match ae1 (s.2.1,()) with
   |none=>none
   |some aj=>
    bif !aj.1 then
     some ((-1:Int),())
    else none
def Gv (s:hh):Option (Int×Unit):=
 bif decide ((0:Int)<=s.2.1) then
  afh (s.1,s.2.1,(decide (s.2.1<128)),())
 else
  afh (s.1,s.2.1,false,())
def aeJ (s:Int×Unit):Option (Bool×Unit):=
 some ((decide (s.1>8)),())
def afa (s:ak):Option (ak⊕((Int×Unit)⊕Unit)):=
 bif decide (s.2.2.1<(List.length s.2.1:Int)) then
  match Gv (s.1,(mZ s.2.1 s.2.2.1).1,()) with
  |none=>none
  |some aj=>
   bif decide (aj.1>=0) then
    some (.inr (.inl (s.2.2.1,())))
   else
    some (.inl (s.1,s.2.1,(s.2.2.1+(mZ s.2.1 s.2.2.1).2),()))
 else
  some (.inr (.inr (())))
def wl:=bN afa
def PN (s:ah):Option (Int×Unit):=
 let t0:=decide ((s.2.1:af)=[])
 bif t0 then
  some ((-1:Int),())
 else
  let t1:=(decide ((((List.length s.2.1):Int):Int)=1))
  bif t1 then
   bif decide ((0:Int)<(List.length s.2.1:Int)) then
    let t2:=(IntKind.i32.wrap ((List.getD s.2.1 0 0).toNat:Int))
    bif decide (t2>=128) then
     match Gv (s.1,65533,()) with
     |none=>none
     |some bF=>
      some (bF.1,())
    else
     match Gv (s.1,t2,()) with
     |none=>none
     |some bF=>
      some (bF.1,())
   else none
  else
   match aeJ (((List.length s.1):Int),()) with
   |none=>none
   |some aL=>
    bif aL.1 then
     none
    else
     match wl (s.2.1,s.1,0,()) with
     |none=>none
     |some (.inl z3)=>
      some (z3.1,())
     |some (.inr z3)=>
      some ((-1:Int),())
def Tl (s:ah):Option (Int×Unit):=AZ (PN s) (yC s)
def Vu (s:xV):Option (af×Int×af×af×Int×Int×af×Unit):=
 match Tl (s.1,([1,2,3]:af),()) with
 |none=>none
 |some aj=>
  bif decide (aj.1<0) then
   some ([],0,s.1,s.2.1,s.2.2.1,s.2.2.2.1,s.2.2.2.2.1,())
  else
   bif decide ((0:Int)<=aj.1)&&decide (aj.1<=(List.length s.1:Int)) then
    let t1:=(List.drop 0 (List.take (Int.toNat aj.1) s.1))
    bif decide (0<=aj.1)&&decide (aj.1<(List.length s.1:Int)) then
     let t2:Int:=((List.getD s.1 (Int.toNat aj.1) 0).toNat:Int)
     bif (decide (0<=(i64.wrap (aj.1+1)))&&decide (((i64.wrap (aj.1+1)):Int)<=(List.length s.1:Int))&&decide (((List.length s.1:Int):Int)<=(List.length s.1:Int))) then
      let t3:=(List.drop (Int.toNat (i64.wrap (aj.1+1))) (List.take (Int.toNat (List.length s.1:Int)) s.1))
      some (t1,t2,t3,s.2.1,s.2.2.1,s.2.2.2.1,s.2.2.2.2.1,())
     else none
    else none
   else none
def Sj (s:Rg):Option xV:=
 bif s.2.1 then
  bif decide ((0:Int)<(List.length s.2.2.1:Int)) then
   let t0:=i64.wrap ((List.getD s.2.2.1 0 0).toNat:Int)
   let t1:=(i64.wrap (t0*2^(min (Int.toNat 8) i64.bits)))
   bif decide ((1:Int)<(List.length s.2.2.1:Int)) then
    let t2:Int:=((List.getD s.2.2.1 (Int.toNat 1) 0).toNat:Int)
    let t3:=(i64.wrap ((BitVec.ofInt i64.bits t1 ||| BitVec.ofInt i64.bits (i64.wrap t2)).toNat:Int))
    some (s.2.2.1,s.2.2.2.1,s.2.2.2.2.1,t3,s.2.2.2.2.2.2.1,())
   else none
  else none
 else
  bif decide (s.1=3) then
   some (s.2.2.1,s.2.2.2.1,s.2.2.2.2.1,s.2.2.2.2.2.1,s.2.2.1,())
  else
   some (s.2.2.1,s.2.2.2.1,s.2.2.2.2.1,s.2.2.2.2.2.1,s.2.2.2.2.2.2.1,())
def Si (s:Rg):Option xV:=
 bif s.2.1 then
  some (s.2.2.1,s.2.2.2.1,4,s.2.2.2.2.2.1,s.2.2.2.2.2.2.1,())
 else
  bif decide (s.1=2) then
   let t0:=(decide ((((List.length s.2.2.1):Int):Int)=2))
   Sj (s.1,t0,s.2.2.1,s.2.2.2.1,s.2.2.2.2.1,s.2.2.2.2.2.1,s.2.2.2.2.2.2.1,())
  else
   Sj (s.1,false,s.2.2.1,s.2.2.2.1,s.2.2.2.2.1,s.2.2.2.2.2.1,s.2.2.2.2.2.2.1,())
def TL (s:xV):Option xV:=
 match qr (s.1,([6]:af),()) with
 |none=>none
 |some aj=>
  match Vu (aj.1,s.2.1,s.2.2.1,s.2.2.2.1,s.2.2.2.2.1,()) with
  |none=>none
  |some au=>
   bif aj.2.1 then
    Si (au.2.1,(decide (au.2.1=1)),au.2.2.1,au.1,(i64.wrap au.2.1),au.2.2.2.2.2.1,au.2.2.2.2.2.2.1,())
   else
    Si (au.2.1,false,au.2.2.1,au.1,(i64.wrap au.2.1),au.2.2.2.2.2.1,au.2.2.2.2.2.2.1,())
def aes (s:af×af×Int×Bool×Unit):Option (Int×Unit):=
 bif s.2.2.2.1 then
  some (0,())
 else
  bif decide (s.2.2.1=1) then
   bif decide ((0:Int)<(List.length s.2.1:Int)) then
    match OY (s.1,((List.getD s.2.1 0 0).toNat:Int),()) with
    |none=>none
    |some aj=>
     some (aj.1,())
   else none
  else
   let t0:=(decide (s.2.2.1>=((List.length s.1):Int)))
   bif t0 then
    some ((-1:Int),())
   else none
def aex (s:ah):Option (Int×Unit):=
 let t0:=(decide ((((List.length s.2.1):Int):Int)=0))
 bif !t0 then
  aes (s.1,s.2.1,((List.length s.2.1):Int),(decide ((s.2.1:af)=s.1)),())
 else
  aes (s.1,s.2.1,((List.length s.2.1):Int),true,())
def aeP (s:ah):Option xU:=
 match aex (s.1,s.2.1,()) with
 |none=>none
 |some aj=>
  bif decide (aj.1>=0) then
   bif decide ((0:Int)<=aj.1)&&decide (aj.1<=(List.length s.1:Int)) then
    let t1:=(List.drop 0 (List.take (Int.toNat aj.1) s.1))
    let t2:=(i64.wrap (aj.1+((List.length s.2.1):Int)))
    bif (decide (0<=t2)&&decide (t2<=(List.length s.1:Int))&&decide (((List.length s.1:Int):Int)<=(List.length s.1:Int))) then
     let t3:=(List.drop (Int.toNat t2) (List.take (Int.toNat (List.length s.1:Int)) s.1))
     some (t1,t3,true,())
    else none
   else none
  else
   some (s.1,[],false,())
def Yg (s:ah):Option xU:=
 match aeP (s.1,s.2.1,()) with
 |none=>none
 |some aj=>
  some (aj.1,aj.2.1,aj.2.2.1,())
def We (s:Int×Unit):Option (Bool×Unit):=
 bif (!(decide (s.1<33))) then
  bif (!(decide (s.1>126))) then
   some ((decide (s.1=47)),())
  else
   some (true,())
 else
  some (true,())
def afj (s:Bool×af×Int×Unit):Option ((Bool×af×Int×Unit)⊕((Int×Unit)⊕Unit)):=
 bif decide (s.2.2.1<(List.length s.2.1:Int)) then
  match We ((mZ s.2.1 s.2.2.1).1,()) with
  |none=>none
  |some aj=>
   bif (aj.1==s.1) then
    some (.inr (.inl (s.2.2.1,())))
   else
    some (.inl (s.1,s.2.1,(s.2.2.1+(mZ s.2.1 s.2.2.1).2),()))
 else
  some (.inr (.inr (())))
def afl:=bN afj
def SB (s:uB):Option (Int×Unit):=
 match afl (s.2.1,s.1,0,()) with
 |none=>none
 |some (.inl z0)=>
  some (z0.1,())
 |some (.inr z0)=>
  some ((-1:Int),())
def Sy (s:af×Unit):Option (Int×Unit):=
 match SB (s.1,true,()) with
 |none=>none
 |some aj=>
  some (aj.1,())
def Ku (s:af×Unit):Option (Bool×Unit):=
 let t0:=decide ((s.1:af)=[])
 bif !t0 then
  let t1:=(decide ((((List.length s.1):Int):Int)>12))
  bif !t1 then
   let t2:=decide ((s.1:af)=([46]:af))
   bif !t2 then
    let t3:=decide ((s.1:af)=([46,46]:af))
    bif t3 then
     some (false,())
    else
     match Sy (s.1,()) with
     |none=>none
     |some cN=>
      some ((decide (cN.1<0)),())
   else
    some (false,())
  else
   some (false,())
 else
  some (false,())
def Wa (s:af×Unit):Option ((af×Unit)⊕((Bool×Unit)⊕Unit)):=
 let t0:=(!decide ((s.1:af)=[]))
 bif t0 then
  match Yg (s.1,([47]:af),()) with
  |none=>none
  |some au=>
   bif (!(!au.2.2.1)) then
    match Ku (au.1,()) with
    |none=>none
    |some aL=>
     bif !aL.1 then
      some (.inr (.inl (false,())))
     else
      some (.inl (au.2.1,()))
   else
    some (.inr (.inl (false,())))
 else
  some (.inr (.inr (())))
def Wc:=bN Wa
def KL (s:af×Unit):Option (Bool×Unit):=
 match Wc (s.1,()) with
 |none=>none
 |some (.inl z0)=>
  some (z0.1,())
 |some (.inr z0)=>
  some (true,())
def aeA (s:HY):Option (hh⊕((af×Unit)⊕Unit)):=
 bif s.2.2.1 then
  let t0:=(i64.wrap (((List.length s.1):Int)-1))
  bif decide ((0:Int)<=t0)&&decide (t0<=(List.length s.1:Int)) then
   let t1:=(List.drop 0 (List.take (Int.toNat t0) s.1))
   some (.inl (t1,s.2.1,()))
  else none
 else
  some (.inr (.inl (s.1,())))
def aeM (s:hh):Option (hh⊕((af×Unit)⊕Unit)):=
 let t0:=(decide ((((List.length s.1):Int):Int)>0))
 bif t0 then
  let t1:=(i64.wrap (((List.length s.1):Int)-1))
  bif decide (0<=t1)&&decide (t1<(List.length s.1:Int)) then
   let t2:Int:=((List.getD s.1 (Int.toNat t1) 0).toNat:Int)
   aeA (s.1,s.2.1,(decide (t2=s.2.1)),())
  else none
 else
  aeA (s.1,s.2.1,false,())
def aeO:=bN aeM
def wn (s:hh):Option (af×Unit):=
 match aeO (s.1,s.2.1,()) with
 |none=>none
 |some (.inl z0)=>
  some (z0.1,())
 |some (.inr z0)=>
  none
def aeB (s:HY):Option (hh⊕((af×Unit)⊕Unit)):=
 bif s.2.2.1 then
  bif (decide ((1:Int)<=(List.length s.1:Int))&&decide (((List.length s.1:Int):Int)<=(List.length s.1:Int))) then
   let t0:=(List.drop (Int.toNat 1) (List.take (Int.toNat (List.length s.1:Int)) s.1))
   some (.inl (t0,s.2.1,()))
  else none
 else
  some (.inr (.inl (s.1,())))
def aeR (s:hh):Option (hh⊕((af×Unit)⊕Unit)):=
 let t0:=(decide ((((List.length s.1):Int):Int)>0))
 bif t0 then
  bif decide ((0:Int)<(List.length s.1:Int)) then
   let t1:=(decide ((((List.getD s.1 0 0).toNat:Int):Int)=s.2.1))
   aeB (s.1,s.2.1,t1,())
  else none
 else
  aeB (s.1,s.2.1,false,())
def aeT:=bN aeR
def afm (s:hh):Option (af×Unit):=
 match aeT (s.1,s.2.1,()) with
 |none=>none
 |some (.inl z0)=>
  some (z0.1,())
 |some (.inr z0)=>
  none
def SA (s:xU):Option (af×Unit):=
 bif s.2.2.1 then
  bif decide ((0:Int)<(List.length s.2.1:Int)) then
   match wn (s.1,((List.getD s.2.1 0 0).toNat:Int),()) with
   |none=>none
   |some aj=>
    bif decide ((0:Int)<(List.length s.2.1:Int)) then
     match afm (aj.1,((List.getD s.2.1 0 0).toNat:Int),()) with
     |none=>none
     |some au=>
      some (au.1,())
    else none
  else none
 else none
def Sz (s:xU):Option (af×Unit):=
 bif s.2.2.1 then
  some (s.1,())
 else
  let t0:=(decide ((((List.length s.2.1):Int):Int)=1))
  bif t0 then
   bif decide ((0:Int)<(List.length s.2.1:Int)) then
    let t1:=(decide ((((List.getD s.2.1 0 0).toNat:Int):Int)<128))
    SA (s.1,s.2.1,t1,())
   else none
  else
   SA (s.1,s.2.1,false,())
def Iw (s:ah):Option (af×Unit):=
 let t0:=decide ((s.1:af)=[])
 bif !t0 then
  let t1:=decide ((s.2.1:af)=[])
  Sz (s.1,s.2.1,t1,())
 else
  Sz (s.1,s.2.1,true,())
def Xx (s:ah):Option (af×Unit):=AZ (Iw s) (yy s)
def G6 (s:uB):Option (Bool×Unit):=
 bif s.2.1 then
  some (false,())
 else
  bif decide ((9:Int)<=(List.length s.1:Int)) then
   let t0:=(List.drop (Int.toNat 1) (List.take (Int.toNat 9) s.1))
   match Xx (t0,([48,49,50,51,52,53,54,55,56,57,97,98,99,100,101,102]:af),()) with
   |none=>none
   |some au=>
    let t2:=decide ((au.1:af)=[])
    some (t2,())
  else none
def XU (s:af×Unit):Option (Bool×Unit):=
 let t0:=(!decide ((((List.length s.1):Int):Int)=10))
 bif !t0 then
  bif decide ((0:Int)<(List.length s.1:Int)) then
   let t1:=(!decide ((((List.getD s.1 0 0).toNat:Int):Int)=5))
   bif !t1 then
    bif decide ((1:Int)<(List.length s.1:Int)) then
     let t2:Int:=((List.getD s.1 (Int.toNat 1) 0).toNat:Int)
     bif (!(decide (t2>55))) then
      bif decide ((9:Int)<(List.length s.1:Int)) then
       let t3:Int:=((List.getD s.1 (Int.toNat 9) 0).toNat:Int)
       G6 (s.1,(!decide (t3=47)),())
      else none
     else
      G6 (s.1,true,())
    else none
   else
    G6 (s.1,true,())
  else none
 else
  G6 (s.1,true,())
def tq (s:Bool×iw×Unit):Option (Unit⊕hh):=
 bif s.1 then
  bif decide (List.length ([6]:af)+List.length s.2.1.1<=bm) then
   bif (decide (List.length (([6]:af)++s.2.1.1)+List.length ([1]:af)<=bm)) then
    let t0:af:=((([6]:af)++s.2.1.1)++([1]:af))
    some (.inr (t0,0,()))
   else none
  else none
 else
  some (.inl (()))
def q5 (s:CH):Option (Unit⊕hh):=
 bif s.1 then
  bif decide (List.length s.2.1.1+List.length ([3]:af)<=bm) then
   bif (decide (List.length (s.2.1.1++([3]:af))+List.length s.2.1.2.2.2.1<=bm)) then
    let t0:af:=((s.2.1.1++([3]:af))++s.2.1.2.2.2.1)
    some (.inr (t0,0,()))
   else none
  else none
 else
  bif decide (s.2.1.2.1=4) then
   let t0:=(aD.eqb fZ s.2.1 (s.2.2.1,(s.2.2.2.1,(s.2.2.2.2.1,(s.2.2.2.2.2.1,())))))
   match tq (t0,s.2.1,()) with
   |none=>none
   |some (.inl aH)=>
    some (.inl (()))
   |some (.inr aH)=>
    some (.inr (aH.1,aH.2.1,()))
  else
   match tq (false,s.2.1,()) with
   |none=>none
   |some (.inl z0)=>
    some (.inl (()))
   |some (.inr z0)=>
    some (.inr (z0.1,z0.2.1,()))
def pb (s:CH):Option (Unit⊕hh):=
 bif s.1 then
  let t0:Int:=(Int.fdiv s.2.1.2.2.1 (2^(min (Int.toNat 8) i64.bits)))
  let t1:af:=(rV ([2,(IntKind.u8.wrap t0),(IntKind.u8.wrap s.2.1.2.2.1)]:List Int))
  bif decide (List.length s.2.1.1+List.length t1<=bm) then
   some (.inr ((s.2.1.1++t1),0,()))
  else none
 else
  bif decide (s.2.1.2.1=3) then
   let t0:=decide (s.2.1.2.2.1=0)
   bif t0 then
    match Ku (s.2.1.2.2.2.1,()) with
    |none=>none
    |some au=>
     match q5 (au.1,s.2.1,s.2.2.1,s.2.2.2.1,s.2.2.2.2.1,s.2.2.2.2.2.1,()) with
     |none=>none
     |some (.inl z2)=>
      some (.inl (()))
     |some (.inr z2)=>
      some (.inr (z2.1,z2.2.1,()))
   else
    match q5 (false,s.2.1,s.2.2.1,s.2.2.2.1,s.2.2.2.2.1,s.2.2.2.2.2.1,()) with
    |none=>none
    |some (.inl aH)=>
     some (.inl (()))
    |some (.inr aH)=>
     some (.inr (aH.1,aH.2.1,()))
  else
   match q5 (false,s.2.1,s.2.2.1,s.2.2.2.1,s.2.2.2.2.1,s.2.2.2.2.2.1,()) with
   |none=>none
   |some (.inl z0)=>
    some (.inl (()))
   |some (.inr z0)=>
    some (.inr (z0.1,z0.2.1,()))
def tp (s:CH):Option (Unit⊕hh):=
 bif s.1 then
  bif decide (List.length s.2.1.1+List.length ([1]:af)<=bm) then
   some (.inr ((s.2.1.1++([1]:af)),0,()))
  else none
 else
  bif decide (s.2.1.2.1=2) then
   let t0:=decide ((s.2.1.2.2.2.1:af)=[])
   bif t0 then
    let t1:=decide (s.2.1.2.2.1>=0)
    bif t1 then
     let t2:=decide (s.2.1.2.2.1<=60000)
     match pb (t2,s.2.1,s.2.2.1,s.2.2.2.1,s.2.2.2.2.1,s.2.2.2.2.2.1,()) with
     |none=>none
     |some (.inl z3)=>
      some (.inl (()))
     |some (.inr z3)=>
      some (.inr (z3.1,z3.2.1,()))
    else
     match pb (false,s.2.1,s.2.2.1,s.2.2.2.1,s.2.2.2.2.1,s.2.2.2.2.2.1,()) with
     |none=>none
     |some (.inl z2)=>
      some (.inl (()))
     |some (.inr z2)=>
      some (.inr (z2.1,z2.2.1,()))
   else
    match pb (false,s.2.1,s.2.2.1,s.2.2.2.1,s.2.2.2.2.1,s.2.2.2.2.2.1,()) with
    |none=>none
    |some (.inl aH)=>
     some (.inl (()))
    |some (.inr aH)=>
     some (.inr (aH.1,aH.2.1,()))
  else
   match pb (false,s.2.1,s.2.2.1,s.2.2.2.1,s.2.2.2.2.1,s.2.2.2.2.2.1,()) with
   |none=>none
   |some (.inl z0)=>
    some (.inl (()))
   |some (.inr z0)=>
    some (.inr (z0.1,z0.2.1,()))
def q6 (s:CH):Option (Unit⊕hh):=
 bif s.1 then
  bif decide (s.2.1.2.1=1) then
   let t0:=(aD.eqb fZ s.2.1 (s.2.2.1,(s.2.2.2.1,(s.2.2.2.2.1,(s.2.2.2.2.2.1,())))))
   match tp (t0,s.2.1,s.2.2.1,s.2.2.2.1,s.2.2.2.2.1,s.2.2.2.2.2.1,()) with
   |none=>none
   |some (.inl aH)=>
    some (.inl (()))
   |some (.inr aH)=>
    some (.inr (aH.1,aH.2.1,()))
  else
   match tp (false,s.2.1,s.2.2.1,s.2.2.2.1,s.2.2.2.2.1,s.2.2.2.2.2.1,()) with
   |none=>none
   |some (.inl z0)=>
    some (.inl (()))
   |some (.inr z0)=>
    some (.inr (z0.1,z0.2.1,()))
 else
  some (.inl (()))
def Z9 (s:iw×Unit):Option hh:=
 match KL (s.1.1,()) with
 |none=>none
 |some aj=>
  bif !aj.1 then
   match XU (s.1.1,()) with
   |none=>none
   |some au=>
    bif au.1 then
     match q6 ((!decide (s.1.2.1=4)),s.1,s.1.1,s.1.2.1,0,[],()) with
     |none=>none
     |some (.inl z2)=>
      some ([],12,())
     |some (.inr z2)=>
      some (z2.1,z2.2.1,())
    else
     match q6 (false,s.1,s.1.1,s.1.2.1,0,[],()) with
     |none=>none
     |some (.inl z2)=>
      some ([],12,())
     |some (.inr z2)=>
      some (z2.1,z2.2.1,())
  else
   match q6 (true,s.1,s.1.1,s.1.2.1,0,[],()) with
   |none=>none
   |some (.inl aH)=>
    some ([],12,())
   |some (.inr aH)=>
    some (aH.1,aH.2.1,())
def x3 (s:af×Unit):Option (iw×Int×Unit):=
 match TL (s.1,[],0,0,[],()) with
 |none=>none
 |some aj=>
  match Z9 ((aj.2.1,(aj.2.2.1,(aj.2.2.2.1,(aj.2.2.2.2.1,())))),()) with
  |none=>none
  |some au=>
   bif (!(!decide (au.2.1=0))) then
    bif (!decide ((au.1:af)=s.1)) then
     some (([],(0,(0,([],())))),12,())
    else
     some ((aj.2.1,(aj.2.2.1,(aj.2.2.2.1,(aj.2.2.2.2.1,())))),0,())
   else
    some (([],(0,(0,([],())))),12,())
def Di (s:m4):Option (Int×Int×Int×Int×Unit):=
 match xj (s.1,s.2.1,s.2.2.1,s.2.2.2.1,s.2.2.2.2.1,s.2.2.2.2.2.1,()) with
 |none=>none
 |some aj=>
  match wO (s.1,s.2.1,aj.1,aj.2.1,aj.2.2.1,aj.2.2.2.1,()) with
  |none=>none
  |some au=>
   some (au.1,au.2.1,au.2.2.1,au.2.2.2.1,())
def Dr (s:af×Unit):Option (Int×Unit):=
 let t0:=decide ((s.1:af)=[])
 bif t0 then
  some (0,())
 else
  bif decide ((0:Int)<(List.length s.1:Int)) then
   let t1:=(decide ((((List.getD s.1 0 0).toNat:Int):Int)=6))
   bif t1 then
    some (6,())
   else
    match KL (s.1,()) with
    |none=>none
    |some aL=>
     bif aL.1 then
      some (1,())
     else
      bif decide (List.length s.1+List.length ([1]:af)<=bm) then
       match x3 ((s.1++([1]:af)),()) with
       |none=>none
       |some bF=>
        bif decide (bF.2.1=0) then
         bif decide ((bF.1.1:af)=s.1) then
          some (5,())
         else
          some (0,())
        else
         some (0,())
      else none
  else none
def YG (s:ah):Option (Bool×Unit):=
 match Dr (s.1,()) with
 |none=>none
 |some aj=>
  bif (!decide (aj.1=0)) then
   match Dr (s.1,()) with
   |none=>none
   |some au=>
    match Dr (s.2.1,()) with
    |none=>none
    |some aL=>
     some ((decide (au.1=aL.1)),())
  else
   some (false,())
def Xb (s:ak×Unit):Option tW:=
 match x3 (s.1.1,()) with
 |none=>none
 |some aj=>
  bif (!decide (aj.2.1=0)) then
   some ((0,(0,())),())
  else
   bif decide (aj.1.2.1=1) then
    some ((1,(0,())),())
   else
    bif decide (aj.1.2.1=4) then
     some ((0,(0,())),())
    else
     some ((0,(((List.length s.1.2.1):Int),())),())
def UK (s:RE):Option (RE⊕((Int×Int×Int×Int×Unit)⊕Unit)):=
 bif decide (s.2.2.1<s.2.1) then
  bif decide (0<=s.2.2.1)&&decide (s.2.2.1<(List.length s.1:Int)) then
   let t0:=(List.getD s.1 (Int.toNat s.2.2.1) ([],([],(0,()))))
   match Xb (t0,()) with
   |none=>none
   |some au=>
    let t2:=i64.wrap (s.2.2.2.2.2.1+au.1.1)
    let t3:=i64.wrap (s.2.2.2.2.2.2.1+au.1.2.1)
    some (.inl (s.1,s.2.1,(i64.wrap (s.2.2.1+1)),s.2.2.2.1,s.2.2.2.2.1,t2,t3,()))
  else none
 else
  some (.inr (.inl (s.2.2.2.1,s.2.2.2.2.1,s.2.2.2.2.2.1,s.2.2.2.2.2.2.1,())))
def UM:=bN UK
def Yn (s:List ak×Unit):Option tW:=
 match UM (s.1,((List.length s.1):Int),0,0,0,0,0,()) with
 |none=>none
 |some (.inl z0)=>
  some ((z0.2.2.1,(z0.2.2.2.1,())),())
 |some (.inr z0)=>
  none
def Ys (s:Rq):Option (Rq⊕((bs×Int×Int×Int×Int×Int×Int×Int×Int×Unit)⊕Unit)):=
 bif decide (s.2.2.1<s.2.1) then
  bif decide (0<=s.2.2.1)&&decide (s.2.2.1<(List.length s.1:Int)) then
   let t0:=(List.getD s.1 (Int.toNat s.2.2.1) ((0,(0,())),((0,(0,())),())))
   match xj (t0.1.1,t0.1.2.1,s.2.2.2.2.2.2.2.2.1,s.2.2.2.2.2.2.2.2.2.1,s.2.2.2.2.2.2.2.2.2.2.1,s.2.2.2.2.2.2.2.2.2.2.2.1,()) with
   |none=>none
   |some au=>
    match wO (t0.2.1.1,t0.2.1.2.1,au.1,au.2.1,au.2.2.1,au.2.2.2.1,()) with
    |none=>none
    |some aL=>
     some (.inl (s.1,s.2.1,(i64.wrap (s.2.2.1+1)),s.2.2.2.1,s.2.2.2.2.1,s.2.2.2.2.2.1,s.2.2.2.2.2.2.1,s.2.2.2.2.2.2.2.1,aL.1,aL.2.1,aL.2.2.1,aL.2.2.2.1,()))
  else none
 else
  some (.inr (.inl (s.2.2.2.1,s.2.2.2.2.1,s.2.2.2.2.2.1,s.2.2.2.2.2.2.1,s.2.2.2.2.2.2.2.1,s.2.2.2.2.2.2.2.2.1,s.2.2.2.2.2.2.2.2.2.1,s.2.2.2.2.2.2.2.2.2.2.1,s.2.2.2.2.2.2.2.2.2.2.2.1,())))
def XQ:=bN Ys
def Vs (s:List a6×Int×Int×Bool×Int×Int×Int×Int×Int×Int×Int×Int×a6×Unit):Option (xO⊕((Int×Int×Int×Int×Int×Int×Int×Int×Unit)⊕Unit)):=
 bif s.2.2.2.1 then
  match xj ((-1:Int),0,s.2.2.2.2.2.2.2.2.1,s.2.2.2.2.2.2.2.2.2.1,s.2.2.2.2.2.2.2.2.2.2.1,s.2.2.2.2.2.2.2.2.2.2.2.1,()) with
  |none=>none
  |some aj=>
   some (.inl (s.1,s.2.1,(i64.wrap (s.2.2.1+1)),s.2.2.2.2.1,s.2.2.2.2.2.1,s.2.2.2.2.2.2.1,s.2.2.2.2.2.2.2.1,aj.1,aj.2.1,aj.2.2.1,aj.2.2.2.1,()))
 else
  let t0:=decide (s.2.2.2.2.2.2.2.2.2.2.2.2.1.1=2)
  bif t0 then
   match wO ((-64:Int),0,s.2.2.2.2.2.2.2.2.1,s.2.2.2.2.2.2.2.2.2.1,s.2.2.2.2.2.2.2.2.2.2.1,s.2.2.2.2.2.2.2.2.2.2.2.1,()) with
   |none=>none
   |some au=>
    some (.inl (s.1,s.2.1,(i64.wrap (s.2.2.1+1)),s.2.2.2.2.1,s.2.2.2.2.2.1,s.2.2.2.2.2.2.1,s.2.2.2.2.2.2.2.1,au.1,au.2.1,au.2.2.1,au.2.2.2.1,()))
  else
   let t1:=decide (s.2.2.2.2.2.2.2.2.2.2.2.2.1.1=3)
   bif t1 then
    match Di ((-1000000000000000:Int),0,s.2.2.2.2.2.2.2.2.1,s.2.2.2.2.2.2.2.2.2.1,s.2.2.2.2.2.2.2.2.2.2.1,s.2.2.2.2.2.2.2.2.2.2.2.1,()) with
    |none=>none
    |some aL=>
     some (.inl (s.1,s.2.1,(i64.wrap (s.2.2.1+1)),s.2.2.2.2.1,s.2.2.2.2.2.1,s.2.2.2.2.2.2.1,s.2.2.2.2.2.2.2.1,aL.1,aL.2.1,aL.2.2.1,aL.2.2.2.1,()))
   else
    let t2:=decide (s.2.2.2.2.2.2.2.2.2.2.2.2.1.1=6)
    bif t2 then
     some (.inl (s.1,s.2.1,(i64.wrap (s.2.2.1+1)),s.2.2.2.2.1,s.2.2.2.2.2.1,s.2.2.2.2.2.2.1,s.2.2.2.2.2.2.2.1,s.2.2.2.2.2.2.2.2.1,s.2.2.2.2.2.2.2.2.2.1,s.2.2.2.2.2.2.2.2.2.2.1,s.2.2.2.2.2.2.2.2.2.2.2.1,()))
    else
     match YG (s.2.2.2.2.2.2.2.2.2.2.2.2.1.2.2.2.2.1,s.2.2.2.2.2.2.2.2.2.2.2.2.1.2.2.2.2.2.1,()) with
     |none=>none
     |some bF=>
      bif !bF.1 then
       match Di ((-1000000000000000:Int),1000000000000000,s.2.2.2.2.2.2.2.2.1,s.2.2.2.2.2.2.2.2.2.1,s.2.2.2.2.2.2.2.2.2.2.1,s.2.2.2.2.2.2.2.2.2.2.2.1,()) with
       |none=>none
       |some cN=>
        some (.inl (s.1,s.2.1,(i64.wrap (s.2.2.1+1)),s.2.2.2.2.1,s.2.2.2.2.2.1,s.2.2.2.2.2.2.1,s.2.2.2.2.2.2.2.1,cN.1,cN.2.1,cN.2.2.1,cN.2.2.2.1,()))
      else
       let t4:=decide (s.2.2.2.2.2.2.2.2.2.2.2.2.1.1=5)
       bif t4 then
        match xj ((-1000000000000000:Int),s.2.2.2.2.2.2.2.2.2.1,s.2.2.2.2.2.2.2.2.1,s.2.2.2.2.2.2.2.2.2.1,s.2.2.2.2.2.2.2.2.2.2.1,s.2.2.2.2.2.2.2.2.2.2.2.1,()) with
        |none=>none
        |some fv=>
         match wO ((-1000000000000000:Int),fv.2.2.2.1,fv.1,fv.2.1,fv.2.2.1,fv.2.2.2.1,()) with
         |none=>none
         |some ht=>
          some (.inl (s.1,s.2.1,(i64.wrap (s.2.2.1+1)),s.2.2.2.2.1,s.2.2.2.2.2.1,s.2.2.2.2.2.2.1,s.2.2.2.2.2.2.2.1,ht.1,ht.2.1,ht.2.2.1,ht.2.2.2.1,()))
       else
        match Di ((-1000000000000000:Int),0,s.2.2.2.2.2.2.2.2.1,s.2.2.2.2.2.2.2.2.2.1,s.2.2.2.2.2.2.2.2.2.2.1,s.2.2.2.2.2.2.2.2.2.2.2.1,()) with
        |none=>none
        |some fv=>
         some (.inl (s.1,s.2.1,(i64.wrap (s.2.2.1+1)),s.2.2.2.2.1,s.2.2.2.2.2.1,s.2.2.2.2.2.2.1,s.2.2.2.2.2.2.2.1,fv.1,fv.2.1,fv.2.2.1,fv.2.2.2.1,()))
def Vr (s:Bool×List a6×Int×Int×Bool×Int×Int×Int×Int×Int×Int×Int×Int×a6×Unit):Option (xO⊕((Int×Int×Int×Int×Int×Int×Int×Int×Unit)⊕Unit)):=
 bif s.2.2.2.2.1 then
  match xj (0,1,s.2.2.2.2.2.2.2.2.2.1,s.2.2.2.2.2.2.2.2.2.2.1,s.2.2.2.2.2.2.2.2.2.2.2.1,s.2.2.2.2.2.2.2.2.2.2.2.2.1,()) with
  |none=>none
  |some aj=>
   let t1:=i64.wrap (s.2.2.2.1+1)
   some (.inl (s.2.1,s.2.2.1,t1,s.2.2.2.2.2.1,s.2.2.2.2.2.2.1,s.2.2.2.2.2.2.2.1,s.2.2.2.2.2.2.2.2.1,aj.1,aj.2.1,aj.2.2.1,aj.2.2.2.1,()))
 else
  let t0:=decide (s.2.2.2.2.2.2.2.2.2.2.2.2.2.1.1=1)
  bif t0 then
   let t1:Int:=((List.length s.2.2.2.2.2.2.2.2.2.2.2.2.2.1.2.2.1):Int)
   match wO ((-64:Int),t1,s.2.2.2.2.2.2.2.2.2.1,s.2.2.2.2.2.2.2.2.2.2.1,s.2.2.2.2.2.2.2.2.2.2.2.1,s.2.2.2.2.2.2.2.2.2.2.2.2.1,()) with
   |none=>none
   |some aL=>
    let t3:=i64.wrap (s.2.2.2.1+1)
    some (.inl (s.2.1,s.2.2.1,t3,s.2.2.2.2.2.1,s.2.2.2.2.2.2.1,s.2.2.2.2.2.2.2.1,s.2.2.2.2.2.2.2.2.1,aL.1,aL.2.1,aL.2.2.1,aL.2.2.2.1,()))
  else
   let t1:=decide (s.2.2.2.2.2.2.2.2.2.2.2.2.2.1.1=2)
   bif t1 then
    Vs (s.2.1,s.2.2.1,s.2.2.2.1,s.1,s.2.2.2.2.2.1,s.2.2.2.2.2.2.1,s.2.2.2.2.2.2.2.1,s.2.2.2.2.2.2.2.2.1,s.2.2.2.2.2.2.2.2.2.1,s.2.2.2.2.2.2.2.2.2.2.1,s.2.2.2.2.2.2.2.2.2.2.2.1,s.2.2.2.2.2.2.2.2.2.2.2.2.1,s.2.2.2.2.2.2.2.2.2.2.2.2.2.1,())
   else
    Vs (s.2.1,s.2.2.1,s.2.2.2.1,false,s.2.2.2.2.2.1,s.2.2.2.2.2.2.1,s.2.2.2.2.2.2.2.1,s.2.2.2.2.2.2.2.2.1,s.2.2.2.2.2.2.2.2.2.1,s.2.2.2.2.2.2.2.2.2.2.1,s.2.2.2.2.2.2.2.2.2.2.2.1,s.2.2.2.2.2.2.2.2.2.2.2.2.1,s.2.2.2.2.2.2.2.2.2.2.2.2.2.1,())
def Vq (s:Bool×List a6×Int×Int×Int×Int×Int×Int×Int×Int×Int×Int×a6×Unit):Option (xO⊕((Int×Int×Int×Int×Int×Int×Int×Int×Unit)⊕Unit)):=
 let t0:=decide (s.2.2.2.2.2.2.2.2.2.2.2.2.1.1=1)
 bif t0 then
  Vr (s.1,s.2.1,s.2.2.1,s.2.2.2.1,s.1,s.2.2.2.2.1,s.2.2.2.2.2.1,s.2.2.2.2.2.2.1,s.2.2.2.2.2.2.2.1,s.2.2.2.2.2.2.2.2.1,s.2.2.2.2.2.2.2.2.2.1,s.2.2.2.2.2.2.2.2.2.2.1,s.2.2.2.2.2.2.2.2.2.2.2.1,s.2.2.2.2.2.2.2.2.2.2.2.2.1,())
 else
  Vr (s.1,s.2.1,s.2.2.1,s.2.2.2.1,false,s.2.2.2.2.1,s.2.2.2.2.2.1,s.2.2.2.2.2.2.1,s.2.2.2.2.2.2.2.1,s.2.2.2.2.2.2.2.2.1,s.2.2.2.2.2.2.2.2.2.1,s.2.2.2.2.2.2.2.2.2.2.1,s.2.2.2.2.2.2.2.2.2.2.2.1,s.2.2.2.2.2.2.2.2.2.2.2.2.1,())
def Yt (s:xO):Option (xO⊕((Int×Int×Int×Int×Int×Int×Int×Int×Unit)⊕Unit)):=
 bif decide (s.2.2.1<s.2.1) then
  bif decide (0<=s.2.2.1)&&decide (s.2.2.1<(List.length s.1:Int)) then
   let t0:=(List.getD s.1 (Int.toNat s.2.2.1) (0,([],([],(([],([],())),([],([],(0,()))))))))
   match x3 (t0.2.1,()) with
   |none=>none
   |some au=>
    bif decide (au.2.1=0) then
     Vq ((decide (au.1.2.1=1)),s.1,s.2.1,s.2.2.1,s.2.2.2.1,s.2.2.2.2.1,s.2.2.2.2.2.1,s.2.2.2.2.2.2.1,s.2.2.2.2.2.2.2.1,s.2.2.2.2.2.2.2.2.1,s.2.2.2.2.2.2.2.2.2.1,s.2.2.2.2.2.2.2.2.2.2.1,t0,())
    else
     Vq (false,s.1,s.2.1,s.2.2.1,s.2.2.2.1,s.2.2.2.2.1,s.2.2.2.2.2.1,s.2.2.2.2.2.2.1,s.2.2.2.2.2.2.2.1,s.2.2.2.2.2.2.2.2.1,s.2.2.2.2.2.2.2.2.2.1,s.2.2.2.2.2.2.2.2.2.2.1,t0,())
  else none
 else
  some (.inr (.inl (s.2.2.2.1,s.2.2.2.2.1,s.2.2.2.2.2.1,s.2.2.2.2.2.2.1,s.2.2.2.2.2.2.2.1,s.2.2.2.2.2.2.2.2.1,s.2.2.2.2.2.2.2.2.2.1,s.2.2.2.2.2.2.2.2.2.2.1,())))
def XR:=bN Yt
def Z6 (s:bs×Unit):Option (dX×Unit):=
 let t0:=(decide ((((List.length s.1.2.2.1):Int):Int)=0))
 bif t0 then
  match Yn (s.1.1,()) with
  |none=>none
  |some au=>
   some (((au.1.1,(au.1.1,())),((au.1.2.1,(au.1.2.1,())),())),())
 else
  match XQ (s.1.2.2.2.1,((List.length s.1.2.2.2.1):Int),0,s.1,0,0,0,0,0,0,0,0,()) with
  |none=>none
  |some (.inl aH)=>
   match XR (aH.1.2.2.2.2.1,((List.length aH.1.2.2.2.2.1):Int),0,aH.2.1,aH.2.2.1,aH.2.2.2.1,aH.2.2.2.2.1,aH.2.2.2.2.2.1,aH.2.2.2.2.2.2.1,aH.2.2.2.2.2.2.2.1,aH.2.2.2.2.2.2.2.2.1,()) with
   |none=>none
   |some (.inl z2)=>
    some (((z2.2.2.2.2.1,(z2.2.2.2.2.2.1,())),((z2.2.2.2.2.2.2.1,(z2.2.2.2.2.2.2.2.1,())),())),())
   |some (.inr z2)=>
    none
  |some (.inr aH)=>
   none
def SC (eT:qc->Option (Int×Unit)) (s:Int×Int×Int×Int×Int×bO×bs×List ah×Unit):Option (CF⊕((Int×Unit)⊕(Int×Unit))):=
 bif decide (0<=s.2.1)&&decide (s.2.1<(List.length s.2.2.2.2.2.2.1.2.2.1:Int)) then
  let t0:=(List.getD s.2.2.2.2.2.2.1.2.2.1 (Int.toNat s.2.1) 0)
  match kh (s.2.2.2.2.2.1,t0,()) with
  |none=>none
  |some au=>
   match Z6 (au.1,()) with
   |none=>none
   |some aL=>
    bif decide (0<=s.2.1)&&decide (s.2.1<(List.length s.2.2.2.2.2.2.1.2.2.2.1:Int)) then
     let t3:=(List.getD s.2.2.2.2.2.2.1.2.2.2.1 (Int.toNat s.2.1) ((0,(0,())),((0,(0,())),())))
     let t4:=(!(aD.eqb dJ aL.1 t3))
     bif t4 then
      some (.inr (.inl (0,())))
     else
      let t5:=i64.wrap (s.2.2.2.2.1+1)
      some (.inl (s.1,s.2.2.1,s.2.2.2.1,t5,s.2.2.2.2.2.1,s.2.2.2.2.2.2.1,s.2.2.2.2.2.2.2.1,()))
    else none
 else none
def Iz (eT:qc->Option (Int×Unit)) (s:CF):Option (CF⊕((Int×Unit)⊕(Int×Unit))):=
 bif decide (s.2.2.2.1<s.2.2.1) then
  bif decide (0<=s.2.2.2.1)&&decide (s.2.2.2.1<(List.length s.2.2.2.2.2.2.1:Int)) then
   let t0:=(List.getD s.2.2.2.2.2.2.1 (Int.toNat s.2.2.2.1) ([],([],())))
   bif decide (0<=s.2.2.2.1)&&decide (s.2.2.2.1<(List.length s.2.2.2.2.2.1.2.2.1:Int)) then
    let t1:=(List.getD s.2.2.2.2.2.1.2.2.1 (Int.toNat s.2.2.2.1) 0)
    match eT (s.2.2.2.2.1,t1,t0,(i64.wrap (s.1-1)),()) with
    |none=>none
    |some aL=>
     bif (!(decide (aL.1=0))) then
      bif decide (s.2.2.2.1>0) then
       bif (!decide (aL.1=s.2.1)) then
        some (.inr (.inl (0,())))
       else
        SC eT (s.1,s.2.2.2.1,aL.1,s.2.2.1,s.2.2.2.1,s.2.2.2.2.1,s.2.2.2.2.2.1,s.2.2.2.2.2.2.1,())
      else
       SC eT (s.1,s.2.2.2.1,aL.1,s.2.2.1,s.2.2.2.1,s.2.2.2.2.1,s.2.2.2.2.2.1,s.2.2.2.2.2.2.1,())
     else
      some (.inr (.inl (0,())))
   else none
  else none
 else
  some (.inr (.inr (s.2.1,())))
def IB (eT:qc->Option (Int×Unit)) (s:CF):Option ((Int×Unit)⊕(Int×Unit)):=bN (Iz eT) s
def IA (eT:qc->Option (Int×Unit)) (s:Int×Bool×bO×ah×bs×Unit):Option (Int×Unit):=
 bif s.2.1 then
  some (0,())
 else
  match rQ (s.2.2.2.2.1,()) with
  |none=>none
  |some aj=>
   bif aj.1 then
    some (1,())
   else
    match yb (s.2.2.2.2.1,s.2.2.2.1,()) with
    |none=>none
    |some au=>
     match IB eT (s.1,0,((List.length au.1):Int),0,s.2.2.1,s.2.2.2.2.1,au.1,()) with
     |none=>none
     |some (.inl z2)=>
      some (z2.1,())
     |some (.inr z2)=>
      some ((i64.wrap (z2.1+1)),())
def P3 (eT:qc->Option (Int×Unit)) (s:qc):Option (Int×Unit):=
 match kh (s.1,s.2.1,()) with
 |none=>none
 |some aj=>
  bif (!(!decide (aj.2.1=0))) then
   bif (!(decide (s.2.2.2.1=0))) then
    match YF (aj.1,s.2.2.1,()) with
    |none=>none
    |some au=>
     IA eT (s.2.2.2.1,(!au.1),s.1,s.2.2.1,aj.1,())
   else
    IA eT (s.2.2.2.1,true,s.1,s.2.2.1,aj.1,())
  else
   IA eT (s.2.2.2.1,true,s.1,s.2.2.1,aj.1,())
def P2:Nat->qc->Option (Int×Unit)
 |0,_=>none
 |n+1,s=>P3 (P2 n) s
def Yj (s:qc):Option (Int×Unit):=P2 jB s
def KX (s:ct×Unit):Option (Bool×Unit):=
 match KY (s.1.2.2.1,()) with
 |none=>none
 |some aj=>
  bif aj.1 then
   match Yj (s.1.1,s.1.2.1,([],([],())),64,()) with
   |none=>none
   |some au=>
    some ((decide (au.1>0)),())
  else
   some (false,())
def nd (eE:CI->Option nD) (eG:(fc×Unit)->Option (ct×Int×Unit)) (eP:(ct×a6×Unit)->Option (ct×Int×Unit)) (eF:(ct×Unit)->Option (Int×Unit)) (eN:Unit->Option (ct×Unit)) (eQ:(ct×ah×Unit)->Option (Int×List ak×Unit)) (eO:xZ->Option (Bool×Unit)) (eA:(ct×Unit)->Option (Bool×Unit)) (s:Bool×Int×Bool×Int×Bool×ct×ak×List ak×ct×Unit):Option ((Bool×Unit)⊕Unit):=
 bif s.2.2.2.2.1 then
  let t0:=(aD.eqb ba s.2.2.2.2.2.2.1 (([99,47,120]:af),(([49]:af),(0,()))))
  bif t0 then
   bif s.1 then
    bif decide (s.2.1=2) then
     bif !s.2.2.1 then
      bif decide (s.2.2.2.1=1) then
       match eO (s.2.2.2.2.2.2.2.1,([(([99,47,120]:af),(([49]:af),(0,())))]:List ak),()) with
       |none=>none
       |some au=>
        bif au.1 then
         match eA (s.2.2.2.2.2.1,()) with
         |none=>none
         |some aL=>
          bif aL.1 then
           match eA (s.2.2.2.2.2.2.2.2.1,()) with
           |none=>none
           |some bF=>
            bif bF.1 then
             match eF (s.2.2.2.2.2.1,()) with
             |none=>none
             |some cN=>
              bif decide (cN.1=2) then
               match eF (s.2.2.2.2.2.2.2.2.1,()) with
               |none=>none
               |some fv=>
                bif decide (fv.1=1) then
                 match eA ((([],()),(0,((0,(0,(0,()))),()))),()) with
                 |none=>none
                 |some ht=>
                  some (.inl ((!ht.1),()))
                else
                 some (.inl (false,()))
              else
               some (.inl (false,()))
            else
             some (.inl (false,()))
          else
           some (.inl (false,()))
        else
         some (.inl (false,()))
      else
       some (.inl (false,()))
     else
      some (.inl (false,()))
    else
     some (.inl (false,()))
   else
    some (.inl (false,()))
  else
   some (.inl (false,()))
 else
  some (.inl (false,()))
def PS (eE:CI->Option nD) (eG:(fc×Unit)->Option (ct×Int×Unit)) (eP:(ct×a6×Unit)->Option (ct×Int×Unit)) (eF:(ct×Unit)->Option (Int×Unit)) (eN:Unit->Option (ct×Unit)) (eQ:(ct×ah×Unit)->Option (Int×List ak×Unit)) (eO:xZ->Option (Bool×Unit)) (eA:(ct×Unit)->Option (Bool×Unit)) (s:Unit):Option (Bool×Unit):=
 match eN (()) with
 |none=>none
 |some aj=>
  match eE (aj.1,([99,47,120]:af),()) with
  |none=>none
  |some au=>
   match eE (aj.1,([97,47,120]:af),()) with
   |none=>none
   |some aL=>
    match eQ (aj.1,([],([],())),()) with
    |none=>none
    |some bF=>
     match eG ((1,(2,(1,()))),()) with
     |none=>none
     |some cN=>
      match eP (aj.1,(0,([],([],(([],([],())),([],([],(0,()))))))),()) with
      |none=>none
      |some fv=>
       match eG (aj.1.2.2.1,()) with
       |none=>none
       |some ht=>
        let t7:=decide (au.2.2.2.1=0)
        bif t7 then
         let t8:=decide (aL.2.2.2.1=0)
         bif t8 then
          bif decide (bF.1=0) then
           bif decide (cN.2.1=120) then
            bif decide (fv.2.1=50) then
             match nd eE eG eP eF eN eQ eO eA (au.2.1,au.2.2.1,aL.2.1,aL.2.2.1,(decide (ht.2.1=0)),aj.1,au.1,bF.2.1,ht.1,()) with
             |none=>none
             |some (.inl z9)=>
              some (z9.1,())
             |some (.inr z9)=>
              none
            else
             match nd eE eG eP eF eN eQ eO eA (au.2.1,au.2.2.1,aL.2.1,aL.2.2.1,false,aj.1,au.1,bF.2.1,ht.1,()) with
             |none=>none
             |some (.inl z9)=>
              some (z9.1,())
             |some (.inr z9)=>
              none
           else
            match nd eE eG eP eF eN eQ eO eA (au.2.1,au.2.2.1,aL.2.1,aL.2.2.1,false,aj.1,au.1,bF.2.1,ht.1,()) with
            |none=>none
            |some (.inl z9)=>
             some (z9.1,())
            |some (.inr z9)=>
             none
          else
           match nd eE eG eP eF eN eQ eO eA (au.2.1,au.2.2.1,aL.2.1,aL.2.2.1,false,aj.1,au.1,bF.2.1,ht.1,()) with
           |none=>none
           |some (.inl z9)=>
            some (z9.1,())
           |some (.inr z9)=>
            none
         else
          match nd eE eG eP eF eN eQ eO eA (au.2.1,au.2.2.1,aL.2.1,aL.2.2.1,false,aj.1,au.1,bF.2.1,ht.1,()) with
          |none=>none
          |some (.inl z9)=>
           some (z9.1,())
          |some (.inr z9)=>
           none
        else
         match nd eE eG eP eF eN eQ eO eA (au.2.1,au.2.2.1,aL.2.1,aL.2.2.1,false,aj.1,au.1,bF.2.1,ht.1,()) with
         |none=>none
         |some (.inl mj)=>
          some (mj.1,())
         |some (.inr mj)=>
          none
def J7 (s:Unit):Option (Bool×Unit):=PS oA LI LH Kw Kr kP xk KX s
def VY (s:Int×(List af)×Unit):Option ((Int×(List af)×Unit)⊕(((List af)×Unit)⊕Unit)):=
 bif decide (s.1<20) then
  match pU (s.1,()) with
  |none=>none
  |some aj=>
   match pU (s.1,()) with
   |none=>none
   |some au=>
    bif decide (List.length ([99,47]:af)+List.length au.1<=bm) then
     match pU (s.1,()) with
     |none=>none
     |some aL=>
      bif (decide ((2:Int)<=(List.length aL.1:Int))&&decide (((List.length aL.1:Int):Int)<=(List.length aL.1:Int))) then
       let t3:=(List.drop (Int.toNat 2) (List.take (Int.toNat (List.length aL.1:Int)) aL.1))
       bif decide (List.length ([100,47]:af)+List.length t3<=bm) then
        bif (decide ((List.length s.2.1+List.length ([aj.1,(([99,47]:af)++au.1),(([100,47]:af)++t3)]:List af))*16<=bm)) then
         let t4:List af:=(s.2.1++([aj.1,(([99,47]:af)++au.1),(([100,47]:af)++t3)]:List af))
         some (.inl ((IntKind.u8.wrap (s.1+1)),t4,()))
        else none
       else none
      else none
    else none
 else
  some (.inr (.inl (s.2.1,())))
def V0:=bN VY
def tR (s:Unit):Option ((List af)×Unit):=
 match V0 (0,([[],([97]:af),([97,47,98]:af),([99,47,98,47,1]:af),([100,47,98,47,2,0,1]:af),([122,122]:af)]:List af),()) with
 |none=>none
 |some (.inl z0)=>
  some (z0.1,())
 |some (.inr z0)=>
  none
def K1 (s:CI):Option (nD×Unit):=
 match oA (s.1,s.2.1,()) with
 |none=>none
 |some aj=>
  some ((aj.1,(aj.2.1,(aj.2.2.1,(aj.2.2.2.1,())))),())
def wP (s:RI):Option (RI⊕((Bool×ak×Unit)⊕ak)):=
 let t0:=(decide (s.2.2.1<((List.length s.1):Int)))
 bif t0 then
  bif decide (0<=s.2.2.1)&&decide (s.2.2.1<(List.length s.1:Int)) then
   let t1:=(List.getD s.1 (Int.toNat s.2.2.1) ([],([],(0,()))))
   bif decide ((t1.1:af)=s.2.1) then
    bif decide (0<=s.2.2.1)&&decide (s.2.2.1<(List.length s.1:Int)) then
     let t2:=(List.getD s.1 (Int.toNat s.2.2.1) ([],([],(0,()))))
     some (.inr (.inl (true,t2,())))
    else none
   else
    some (.inl (s.1,s.2.1,(i64.wrap (s.2.2.1+1)),s.2.2.2.1,s.2.2.2.2.1,s.2.2.2.2.2.1,()))
  else none
 else
  some (.inr (.inr (s.2.2.2.1,s.2.2.2.2.1,s.2.2.2.2.2.1,())))
def acl:=bN wP
def x6 (s:xX):Option (ak×Bool×Unit):=
 match acl (s.1,s.2.1,0,[],[],0,()) with
 |none=>none
 |some (.inl z0)=>
  some (z0.2.1,z0.1,())
 |some (.inr z0)=>
  some (([],([],(0,()))),false,())
def xx (s:H9):Option (Bool×Unit):=
 bif (!(Op.bytesLess s.2.1 s.1.1)) then
  let t0:=decide ((s.1.2.1:af)=[])
  bif !t0 then
   some ((Op.bytesLess s.2.1 s.1.2.1),())
  else
   some (true,())
 else
  some (false,())
def Ge (s:nN):Option (nN⊕((Bool×ak×List ak×Unit)⊕Unit)):=
 bif decide (0<=s.2.2.1)&&decide (s.2.2.1<(List.length s.1:Int)) then
  let t0:=(List.getD s.1 (Int.toNat s.2.2.1) ([],([],(0,()))))
  let t1:=(!decide ((t0.1:af)=s.2.2.2.1.1))
  bif t1 then
   bif decide (0<=s.2.2.1)&&decide (s.2.2.1<(List.length s.1:Int)) then
    let t2:=(List.getD s.1 (Int.toNat s.2.2.1) ([],([],(0,()))))
    bif (decide ((List.length s.2.2.2.2.1+List.length ([t2]:List ak))*40<=bm)) then
     let t3:List ak:=(s.2.2.2.2.1++([t2]:List ak))
     some (.inl (s.1,s.2.1,(i64.wrap (s.2.2.1+1)),s.2.2.2.1,t3,()))
    else none
   else none
  else
   some (.inl (s.1,s.2.1,(i64.wrap (s.2.2.1+1)),s.2.2.2.1,s.2.2.2.2.1,()))
 else none
def sV (s:RF):Option (nN⊕((Bool×ak×List ak×Unit)⊕Unit)):=
 bif s.2.2.2.1 then
  bif (decide ((List.length s.2.2.2.2.2.1+List.length ([s.2.2.2.2.1]:List ak))*40<=bm)) then
   let t0:List ak:=(s.2.2.2.2.2.1++([s.2.2.2.2.1]:List ak))
   Ge (s.1,true,s.2.2.1,s.2.2.2.2.1,t0,())
  else none
 else
  Ge (s.1,s.2.1,s.2.2.1,s.2.2.2.2.1,s.2.2.2.2.2.1,())
def q4 (s:nN):Option (nN⊕((Bool×ak×List ak×Unit)⊕Unit)):=
 let t0:=(decide (s.2.2.1<((List.length s.1):Int)))
 bif t0 then
  bif !s.2.1 then
   bif decide (0<=s.2.2.1)&&decide (s.2.2.1<(List.length s.1:Int)) then
    let t1:=(List.getD s.1 (Int.toNat s.2.2.1) ([],([],(0,()))))
    let t2:=(Op.bytesLess s.2.2.2.1.1 t1.1||decide ((s.2.2.2.1.1:af)=t1.1))
    sV (s.1,s.2.1,s.2.2.1,t2,s.2.2.2.1,s.2.2.2.2.1,())
   else none
  else
   sV (s.1,s.2.1,s.2.2.1,false,s.2.2.2.1,s.2.2.2.2.1,())
 else
  some (.inr (.inl (s.2.1,s.2.2.2.1,s.2.2.2.2.1,())))
def Qz:=bN q4
def w4 (s:List ak×ak×Unit):Option (List ak×Unit):=
 match Qz (s.1,false,0,s.2.1,[],()) with
 |none=>none
 |some (.inl z0)=>
  bif !z0.1 then
   bif (decide ((List.length z0.2.2.1+List.length ([z0.2.1]:List ak))*40<=bm)) then
    let t1:List ak:=(z0.2.2.1++([z0.2.1]:List ak))
    some (t1,())
   else none
  else
   some (z0.2.2.1,())
 |some (.inr z0)=>
  none
def xe (s:List ah×af×Int×Unit):Option ((List ah×af×Int×Unit)⊕((Bool×Unit)⊕Unit)):=
 let t0:=(decide (s.2.2.1<((List.length s.1):Int)))
 bif t0 then
  bif decide (0<=s.2.2.1)&&decide (s.2.2.1<(List.length s.1:Int)) then
   let t1:=(List.getD s.1 (Int.toNat s.2.2.1) ([],([],())))
   match xx (t1,s.2.1,()) with
   |none=>none
   |some aL=>
    bif aL.1 then
     some (.inr (.inl (true,())))
    else
     some (.inl (s.1,s.2.1,(i64.wrap (s.2.2.1+1)),()))
  else none
 else
  some (.inr (.inr (())))
def Km:=bN xe
def yp (s:List ah×af×Unit):Option (Bool×Unit):=
 match Km (s.1,s.2.1,0,()) with
 |none=>none
 |some (.inl z0)=>
  some (z0.1,())
 |some (.inr z0)=>
  some (false,())
def wu (s:CB):Option (CB⊕((List ak×Unit)⊕Unit)):=
 let t0:=(decide (s.2.2.1<((List.length s.1):Int)))
 bif t0 then
  bif decide (0<=s.2.2.1)&&decide (s.2.2.1<(List.length s.1:Int)) then
   let t1:=(List.getD s.1 (Int.toNat s.2.2.1) ([],([],(0,()))))
   match yp (s.2.1,t1.1,()) with
   |none=>none
   |some aL=>
    bif !aL.1 then
     bif decide (0<=s.2.2.1)&&decide (s.2.2.1<(List.length s.1:Int)) then
      let t3:=(List.getD s.1 (Int.toNat s.2.2.1) ([],([],(0,()))))
      bif (decide ((List.length s.2.2.2.1+List.length ([t3]:List ak))*40<=bm)) then
       let t4:List ak:=(s.2.2.2.1++([t3]:List ak))
       some (.inl (s.1,s.2.1,(i64.wrap (s.2.2.1+1)),t4,()))
      else none
     else none
    else
     some (.inl (s.1,s.2.1,(i64.wrap (s.2.2.1+1)),s.2.2.2.1,()))
  else none
 else
  some (.inr (.inl (s.2.2.2.1,())))
def PZ:=bN wu
def rb (s:uw):Option (List ak×Unit):=
 match PZ (s.1,s.2.1,0,[],()) with
 |none=>none
 |some (.inl z0)=>
  some (z0.1,())
 |some (.inr z0)=>
  none
def wC (s:CB):Option (CB⊕((List ak×Unit)⊕Unit)):=
 let t0:=(decide (s.2.2.1<((List.length s.1):Int)))
 bif t0 then
  bif decide (0<=s.2.2.1)&&decide (s.2.2.1<(List.length s.1:Int)) then
   let t1:=(List.getD s.1 (Int.toNat s.2.2.1) ([],([],(0,()))))
   match yp (s.2.1,t1.1,()) with
   |none=>none
   |some aL=>
    bif aL.1 then
     bif decide (0<=s.2.2.1)&&decide (s.2.2.1<(List.length s.1:Int)) then
      let t3:=(List.getD s.1 (Int.toNat s.2.2.1) ([],([],(0,()))))
      bif (decide ((List.length s.2.2.2.1+List.length ([t3]:List ak))*40<=bm)) then
       let t4:List ak:=(s.2.2.2.1++([t3]:List ak))
       some (.inl (s.1,s.2.1,(i64.wrap (s.2.2.1+1)),t4,()))
      else none
     else none
    else
     some (.inl (s.1,s.2.1,(i64.wrap (s.2.2.1+1)),s.2.2.2.1,()))
  else none
 else
  some (.inr (.inl (s.2.2.2.1,())))
def QA:=bN wC
def BB (s:uw):Option (List ak×Unit):=
 match QA (s.1,s.2.1,0,[],()) with
 |none=>none
 |some (.inl z0)=>
  some (z0.1,())
 |some (.inr z0)=>
  none
def CY (s:af×af×af×Unit):Option uB:=
 match rk (s.1,s.2.1,()) with
 |none=>none
 |some aj=>
  bif !aj.1 then
   some ([],false,())
  else
   bif (decide (0<=((List.length s.2.1):Int))&&decide ((((List.length s.2.1):Int):Int)<=(List.length s.1:Int))&&decide (((List.length s.1:Int):Int)<=(List.length s.1:Int))) then
    let t1:=(List.drop (Int.toNat ((List.length s.2.1):Int)) (List.take (Int.toNat (List.length s.1:Int)) s.1))
    bif decide (List.length s.2.2.1+List.length t1<=bm) then
     some ((s.2.2.1++t1),true,())
    else none
   else none
def Ba (s:Int×a6×List ak×Unit):Option ((Int×a6×List ak×Unit)⊕((List ak×Unit)⊕Unit)):=
 let t0:=(decide (s.1<((List.length s.2.2.1):Int)))
 bif t0 then
  bif decide (0<=s.1)&&decide (s.1<(List.length s.2.2.1:Int)) then
   let t1:=(List.getD s.2.2.1 (Int.toNat s.1) ([],([],(0,()))))
   match xx (s.2.1.2.2.2.1,t1.1,()) with
   |none=>none
   |some aL=>
    bif aL.1 then
     bif decide (0<=s.1)&&decide (s.1<(List.length s.2.2.1:Int)) then
      let t3:=(List.set s.2.2.1 (Int.toNat s.1) ((List.getD s.2.2.1 (Int.toNat s.1) ([],([],(0,())))).1,((List.getD s.2.2.1 (Int.toNat s.1) ([],([],(0,())))).2.1,(s.2.1.2.2.2.2.2.2.1,(List.getD s.2.2.1 (Int.toNat s.1) ([],([],(0,())))).2.2.2))))
      some (.inl ((i64.wrap (s.1+1)),s.2.1,t3,()))
     else none
    else
     some (.inl ((i64.wrap (s.1+1)),s.2.1,s.2.2.1,()))
  else none
 else
  some (.inr (.inl (s.2.2.1,())))
def It:=bN Ba
def rc (s:Int×a6×List ak×List ak×Unit):Option ((Int×a6×List ak×List ak×Unit)⊕((List ak×Unit)⊕Unit)):=
 let t0:=(decide (s.1<((List.length s.2.2.2.1):Int)))
 bif t0 then
  bif decide (0<=s.1)&&decide (s.1<(List.length s.2.2.2.1:Int)) then
   let t1:=(List.getD s.2.2.2.1 (Int.toNat s.1) ([],([],(0,()))))
   match CY (t1.1,s.2.1.2.2.2.2.1,s.2.1.2.2.2.2.2.1,()) with
   |none=>none
   |some aL=>
    bif decide (0<=s.1)&&decide (s.1<(List.length s.2.2.2.1:Int)) then
     let t3:=(List.getD s.2.2.2.1 (Int.toNat s.1) ([],([],(0,()))))
     bif decide (0<=s.1)&&decide (s.1<(List.length s.2.2.2.1:Int)) then
      let t4:=(List.getD s.2.2.2.1 (Int.toNat s.1) ([],([],(0,()))))
      match w4 (s.2.2.1,(aL.1,(t3.2.1,(t4.2.2.1,()))),()) with
      |none=>none
      |some fv=>
       some (.inl ((i64.wrap (s.1+1)),s.2.1,fv.1,s.2.2.2.1,()))
     else none
    else none
  else none
 else
  some (.inr (.inl (s.2.2.1,())))
def GU:=bN rc
def pN (s:List ak×a6×Unit):Option (List ak×Unit):=
 bif decide (s.2.1.1=1) then
  match w4 (s.1,(s.2.1.2.1,(s.2.1.2.2.1,(s.2.1.2.2.2.2.2.2.1,()))),()) with
  |none=>none
  |some aj=>
   some (aj.1,())
 else
  bif decide (s.2.1.1=2) then
   match mR (s.2.1.2.1,()) with
   |none=>none
   |some aj=>
    match rb (s.1,([aj.1]:List ah),()) with
    |none=>none
    |some au=>
     some (au.1,())
  else
   bif decide (s.2.1.1=3) then
    match rb (s.1,([s.2.1.2.2.2.1]:List ah),()) with
    |none=>none
    |some aj=>
     some (aj.1,())
   else
    bif decide (s.2.1.1=6) then
     bif (decide ((List.length ([]:List ak)+List.length s.1)*40<=bm)) then
      let t0:List ak:=([]++s.1)
      match It (0,s.2.1,t0,()) with
      |none=>none
      |some (.inl aH)=>
       some (aH.1,())
      |some (.inr aH)=>
       none
     else none
    else
     match mb (s.2.1.2.2.2.2.2.1,()) with
     |none=>none
     |some aj=>
      match rb (s.1,([aj.1]:List ah),()) with
      |none=>none
      |some au=>
       match mb (s.2.1.2.2.2.2.1,()) with
       |none=>none
       |some aL=>
        match BB (s.1,([aL.1]:List ah),()) with
        |none=>none
        |some bF=>
         bif decide (s.2.1.1=4) then
          match mb (s.2.1.2.2.2.2.1,()) with
          |none=>none
          |some cN=>
           match rb (au.1,([cN.1]:List ah),()) with
           |none=>none
           |some fv=>
            match GU (0,s.2.1,fv.1,bF.1,()) with
            |none=>none
            |some (.inl jx)=>
             some (jx.1,())
            |some (.inr jx)=>
             none
         else
          match GU (0,s.2.1,au.1,bF.1,()) with
          |none=>none
          |some (.inl z4)=>
           some (z4.1,())
          |some (.inr z4)=>
           none
def BA (s:List ak×List a6×Int×Unit):Option ((List ak×List a6×Int×Unit)⊕((List ak×Unit)⊕Unit)):=
 let t0:=(decide (s.2.2.1<((List.length s.2.1):Int)))
 bif t0 then
  bif decide (0<=s.2.2.1)&&decide (s.2.2.1<(List.length s.2.1:Int)) then
   let t1:=(List.getD s.2.1 (Int.toNat s.2.2.1) (0,([],([],(([],([],())),([],([],(0,()))))))))
   match pN (s.1,t1,()) with
   |none=>none
   |some aL=>
    some (.inl (aL.1,s.2.1,(i64.wrap (s.2.2.1+1)),()))
  else none
 else
  some (.inr (.inl (s.1,())))
def JR:=bN BA
def Dv (s:List ak×List a6×Unit):Option (List ak×Unit):=
 match JR (s.1,s.2.1,0,()) with
 |none=>none
 |some (.inl z0)=>
  some (z0.1,())
 |some (.inr z0)=>
  none
def wv (fJ:dS->Option (List ak×Unit)) (s:H6):Option (H6⊕((bs×List ak×Unit)⊕Unit)):=
 let t0:=(decide (s.1<((List.length s.2.2.1.2.2.1):Int)))
 bif t0 then
  bif decide (0<=s.1)&&decide (s.1<(List.length s.2.2.1.2.2.1:Int)) then
   let t1:=(List.getD s.2.2.1.2.2.1 (Int.toNat s.1) 0)
   match fJ (s.2.1,t1,()) with
   |none=>none
   |some aL=>
    bif decide ((List.length s.2.2.2.1+List.length aL.1)*40<=bm) then
     some (.inl ((i64.wrap (s.1+1)),s.2.1,s.2.2.1,(s.2.2.2.1++aL.1),()))
    else none
  else none
 else
  some (.inr (.inl (s.2.2.1,s.2.2.2.1,())))
def GK (fJ:dS->Option (List ak×Unit)) (s:H6):Option ((bs×List ak×Unit)⊕Unit):=bN (wv fJ) s
def sW (fJ:dS->Option (List ak×Unit)) (s:dS):Option (List ak×Unit):=
 match xz (s.1,s.2.1,()) with
 |none=>none
 |some aj=>
  let t1:=(decide ((((List.length aj.1.2.2.1):Int):Int)=0))
  bif t1 then
   some (aj.1.1,())
  else
   match GK fJ (0,s.1,aj.1,[],()) with
   |none=>none
   |some (.inl z2)=>
    match Dv (z2.2.1,z2.1.2.2.2.2.1,()) with
    |none=>none
    |some bF=>
     some (bF.1,())
   |some (.inr z2)=>
    none
def wb:Nat->dS->Option (List ak×Unit)
 |0,_=>none
 |n+1,s=>sW (wb n) s
def Jr (s:dS):Option (List ak×Unit):=wb jB s
def Dw (s:ct×Unit):Option (List ak×Unit):=
 match Jr (s.1.1,s.1.2.1,()) with
 |none=>none
 |some aj=>
  some (aj.1,())
def AN (s:Ro):Option (Ro⊕((Bool×Unit)⊕(Bool×List ak×m4×ct×Unit))):=
 let t0:=(decide (s.2.2.1<((List.length s.2.2.2.2.2.1):Int)))
 bif t0 then
  bif decide (0<=s.2.2.1)&&decide (s.2.2.1<(List.length s.2.2.2.2.2.1:Int)) then
   let t1:=(List.getD s.2.2.2.2.2.1 (Int.toNat s.2.2.1) [])
   match x6 (s.2.1,t1,()) with
   |none=>none
   |some aL=>
    bif decide (0<=s.2.2.1)&&decide (s.2.2.1<(List.length s.2.2.2.2.2.1:Int)) then
     let t3:=(List.getD s.2.2.2.2.2.1 (Int.toNat s.2.2.1) [])
     match K1 (s.2.2.2.2.1,t3,()) with
     |none=>none
     |some cN=>
      let t5:=(!decide (cN.1.2.2.2.1=0))
      bif !t5 then
       bif (!(!(cN.1.2.1==aL.2.1))) then
        let t6:=(!(aD.eqb ba cN.1.1 aL.1))
        bif t6 then
         some (.inr (.inl (false,())))
        else
         some (.inl (s.1,s.2.1,(i64.wrap (s.2.2.1+3)),s.2.2.2.1,s.2.2.2.2.1,s.2.2.2.2.2.1,()))
       else
        some (.inr (.inl (false,())))
      else
       some (.inr (.inl (false,())))
    else none
  else none
 else
  some (.inr (.inr (s.1,s.2.1,s.2.2.2.1,s.2.2.2.2.1,())))
def PJ:=bN AN
def AO (s:RH):Option (RH⊕((Bool×Unit)⊕(Bool×Unit))):=
 let t0:=(decide (s.2.2.1<((List.length s.2.2.2.2.1):Int)))
 bif t0 then
  bif decide (0<=s.2.2.1)&&decide (s.2.2.1<(List.length s.2.2.2.2.1:Int)) then
   let t1:=(List.getD s.2.2.2.2.1 (Int.toNat s.2.2.1) ([],([],())))
   match kP (s.2.2.2.1,t1,()) with
   |none=>none
   |some aL=>
    bif (!(!decide (aL.1=0))) then
     bif decide (0<=s.2.2.1)&&decide (s.2.2.1<(List.length s.2.2.2.2.1:Int)) then
      let t3:=(List.getD s.2.2.2.2.1 (Int.toNat s.2.2.1) ([],([],())))
      match BT (s.2.1,t3,()) with
      |none=>none
      |some cN=>
       match xk (aL.2.1,cN.1,()) with
       |none=>none
       |some fv=>
        bif !fv.1 then
         some (.inr (.inl (false,())))
        else
         some (.inl (s.1,s.2.1,(i64.wrap (s.2.2.1+1)),s.2.2.2.1,s.2.2.2.2.1,()))
     else none
    else
     some (.inr (.inl (false,())))
  else none
 else
  some (.inr (.inr (s.1,())))
def PK:=bN AO
def wA (s:eh×m4×Int×Unit):Option (Bool×Unit):=
 match J7 (()) with
 |none=>none
 |some aj=>
  match C7 (s.1,()) with
  |none=>none
  |some au=>
   match Dw (au.1,()) with
   |none=>none
   |some aL=>
    match tR (()) with
    |none=>none
    |some bF=>
     let t4:=i64.wrap (Int.tmod s.2.2.1 3)
     match PJ (aj.1,aL.1,t4,s.2.1,au.1,bF.1,()) with
     |none=>none
     |some (.inl z5)=>
      some (z5.1,())
     |some (.inr z5)=>
      match rF (z5.2.2.1,()) with
      |none=>none
      |some ht=>
       match h2 (ht.1,()) with
       |none=>none
       |some Gw=>
        bif (decide ((List.length Gw.1+List.length ([([],([],()))]:List ah))*32<=bm)) then
         let t8:List ah:=(Gw.1++([([],([],()))]:List ah))
         match PK (z5.1,z5.2.1,0,z5.2.2.2.1,t8,()) with
         |none=>none
         |some (.inl z9)=>
          some (z9.1,())
         |some (.inr z9)=>
          some (z9.1,())
        else none
end D
