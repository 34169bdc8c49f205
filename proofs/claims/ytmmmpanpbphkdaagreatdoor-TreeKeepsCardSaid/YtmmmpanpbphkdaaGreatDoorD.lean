import Derived.Test.YtmmmpanpbphkdaaGreatDoorDa
set_option linter.unusedVariables false
open Go Go.X
open Go.IntKind (i64)
namespace D
def y2 (d:Int×H):O (Int×H):=
 match TH (d.1,()) with
 |none=>none
 |some aa=>
  some (aa.1,())
def IY (d:aL):O (Int×H):=
 match yK (d.1,()) with
 |none=>none
 |some aa=>
  match yK (d.2.1,()) with
  |none=>none
  |some ag=>
   bif aa.1 then
    bif ag.1 then
     some (0,())
    else
     some ((-1:Int),())
   else
    bif ag.1 then
     some (1,())
    else
     bif (Op.bytesLess d.1 d.2.1) then
      some ((-1:Int),())
     else
      let t2:=(!(Op.bytesLess d.1 d.2.1||decide ((d.1:N)=d.2.1)))
      bif t2 then
       some (1,())
      else
       some (0,())
def k8 (d:uw):O (Int×H):=
 match IY (d.1.1,d.2.1.1,()) with
 |none=>none
 |some aa=>
  some (aa.1,())
def BE (d:UI):O (l5⊕(eX⊕H)):=
 bif d.2.2.2.2.1 then
  let t0:=i64.wrap (d.2.2.2.1-1)
  let t1:=i64.wrap (d.2.2.2.1-1)
  bif 0<=t1&&t1<(d.2.2.2.2.2.1.length:Int) then
   let t2:=(d.2.2.2.2.2.1.getD (t1.toNat) ([],([],())))
   bif 0<=d.2.2.2.1&&d.2.2.2.1<(d.2.2.2.2.2.1.length:Int) then
    let t3:=(d.2.2.2.2.2.1.getD (d.2.2.2.1.toNat) ([],([],())))
    bif 0<=d.2.2.2.1&&d.2.2.2.1<(d.2.2.2.2.2.1.length:Int) then
     let t4:=(List.set d.2.2.2.2.2.1 (d.2.2.2.1.toNat) t2)
     bif 0<=t0&&t0<(t4.length:Int) then
      let t5:=i64.wrap (d.2.2.2.1-1)
      some (.inl (d.1,d.2.1,d.2.2.1,t5,(List.set t4 (t0.toNat) t3),()))
     else none
    else none
   else none
  else none
 else
  some (.inr (.inl (d.1,d.2.1,d.2.2.1,d.2.2.2.2.2.1,())))
def xH (d:l5):O (l5⊕(eX⊕H)):=
 bif d.2.2.2.1>d.1 then
  bif 0<=d.2.2.2.1&&d.2.2.2.1<(d.2.2.2.2.1.length:Int) then
   let t0:=(d.2.2.2.2.1.getD (d.2.2.2.1.toNat) ([],([],())))
   let t1:=i64.wrap (d.2.2.2.1-1)
   bif 0<=t1&&t1<(d.2.2.2.2.1.length:Int) then
    let t2:=(d.2.2.2.2.1.getD (t1.toNat) ([],([],())))
    match k8 (t0,t2,()) with
    |none=>none
    |some bP=>
     BE (d.1,d.2.1,d.2.2.1,d.2.2.2.1,(decide (bP.1<0)),d.2.2.2.2.1,())
   else none
  else none
 else
  BE (d.1,d.2.1,d.2.2.1,d.2.2.2.1,false,d.2.2.2.2.1,())
def HC:=b6 xH
def B2 (d:eX):O (eX⊕((au×H)⊕H)):=
 bif d.2.2.1<d.2.1 then
  match HC (d.1,d.2.1,d.2.2.1,d.2.2.1,d.2.2.2.1,()) with
  |none=>none
  |some (.inl z0)=>
   let t1:=i64.wrap (z0.2.2.1+1)
   some (.inl (z0.1,z0.2.1,t1,z0.2.2.2.1,()))
  |some (.inr z0)=>
   none
 else
  some (.inr (.inl (d.2.2.2.1,())))
def Qf:=b6 B2
def Hq (d:l6):O (au×H):=
 match Qf (d.1,d.2.1,(i64.wrap (d.1+1)),d.2.2.1,()) with
 |none=>none
 |some (.inl z0)=>
  some (z0.1,())
 |some (.inr z0)=>
  none
def BP (d:l5):O (eX⊕((au×H)⊕(au×H))):=
 bif (0<=(i64.wrap (d.2.1+d.2.2.1))&&((i64.wrap (d.2.1+d.2.2.1)):Int)<(d.2.2.2.2.1.length:Int)) then
  let t0:=(d.2.2.2.2.1.getD (Int.toNat (i64.wrap (d.2.1+d.2.2.1))) ([],([],())))
  bif (0<=(i64.wrap (d.2.1+d.2.2.2.1))&&((i64.wrap (d.2.1+d.2.2.2.1)):Int)<(d.2.2.2.2.1.length:Int)) then
   let t1:=(d.2.2.2.2.1.getD (Int.toNat (i64.wrap (d.2.1+d.2.2.2.1))) ([],([],())))
   match k8 (t0,t1,()) with
   |none=>none
   |some aS=>
    bif (!(decide (aS.1<0))) then
     some (.inr (.inr (d.2.2.2.2.1,())))
    else
     bif (0<=(i64.wrap (d.2.1+d.2.2.2.1))&&((i64.wrap (d.2.1+d.2.2.2.1)):Int)<(d.2.2.2.2.1.length:Int)) then
      let t3:=(d.2.2.2.2.1.getD (Int.toNat (i64.wrap (d.2.1+d.2.2.2.1))) ([],([],())))
      bif (0<=(i64.wrap (d.2.1+d.2.2.1))&&((i64.wrap (d.2.1+d.2.2.1)):Int)<(d.2.2.2.2.1.length:Int)) then
       let t4:=(d.2.2.2.2.1.getD (Int.toNat (i64.wrap (d.2.1+d.2.2.1))) ([],([],())))
       bif (0<=(i64.wrap (d.2.1+d.2.2.1))&&((i64.wrap (d.2.1+d.2.2.1)):Int)<(d.2.2.2.2.1.length:Int)) then
        let t5:=(List.set d.2.2.2.2.1 (Int.toNat (i64.wrap (d.2.1+d.2.2.1))) t3)
        bif (0<=(i64.wrap (d.2.1+d.2.2.2.1))&&((i64.wrap (d.2.1+d.2.2.2.1)):Int)<(t5.length:Int)) then
         let t6:=(List.set t5 (Int.toNat (i64.wrap (d.2.1+d.2.2.2.1))) t4)
         some (.inl (d.1,d.2.1,d.2.2.2.1,t6,()))
        else none
       else none
      else none
     else none
  else none
 else none
def BQ (d:UI):O (eX⊕((au×H)⊕(au×H))):=
 bif d.2.2.2.2.1 then
  let t0:=i64.wrap (d.2.2.2.1+1)
  BP (d.1,d.2.1,d.2.2.1,t0,d.2.2.2.2.2.1,())
 else
  BP (d.1,d.2.1,d.2.2.1,d.2.2.2.1,d.2.2.2.2.2.1,())
def u6 (d:eX):O (eX⊕((au×H)⊕(au×H))):=
 let t0:=(i64.wrap ((i64.wrap (2*d.2.2.1))+1))
 bif t0>=d.1 then
  some (.inr (.inl (d.2.2.2.1,())))
 else
  let t1:=(decide (((i64.wrap (t0+1)):Int)<d.1))
  bif t1 then
   bif (0<=(i64.wrap (d.2.1+t0))&&((i64.wrap (d.2.1+t0)):Int)<(d.2.2.2.1.length:Int)) then
    let t2:=(d.2.2.2.1.getD (Int.toNat (i64.wrap (d.2.1+t0))) ([],([],())))
    let t3:=(i64.wrap ((i64.wrap (d.2.1+t0))+1))
    bif 0<=t3&&t3<(d.2.2.2.1.length:Int) then
     let t4:=(d.2.2.2.1.getD (t3.toNat) ([],([],())))
     match k8 (t2,t4,()) with
     |none=>none
     |some gu=>
      BQ (d.1,d.2.1,d.2.2.1,t0,(decide (gu.1<0)),d.2.2.2.1,())
    else none
   else none
  else
   BQ (d.1,d.2.1,d.2.2.1,t0,false,d.2.2.2.1,())
def R3:=b6 u6
def B3 (d:eX):O (au×H):=
 match R3 (d.2.1,d.2.2.1,d.1,d.2.2.2.1,()) with
 |none=>none
 |some (.inl z0)=>
  some (z0.1,())
 |some (.inr z0)=>
  some (z0.1,())
def B4 (d:l5):O (l5⊕(eX⊕H)):=
 bif d.2.2.2.1>=0 then
  match B3 (d.2.2.2.1,d.2.2.1,d.1,d.2.2.2.2.1,()) with
  |none=>none
  |some aa=>
   let t1:=i64.wrap (d.2.2.2.1-1)
   some (.inl (d.1,d.2.1,d.2.2.1,t1,aa.1,()))
 else
  some (.inr (.inl (d.1,d.2.1,d.2.2.1,d.2.2.2.2.1,())))
def R1:=b6 B4
def B5 (d:eX):O (eX⊕((au×H)⊕H)):=
 bif d.2.2.1>=0 then
  bif (0<=(i64.wrap (d.1+d.2.2.1))&&((i64.wrap (d.1+d.2.2.1)):Int)<(d.2.2.2.1.length:Int)) then
   let t0:=(d.2.2.2.1.getD (Int.toNat (i64.wrap (d.1+d.2.2.1))) ([],([],())))
   bif 0<=d.1&&d.1<(d.2.2.2.1.length:Int) then
    let t1:=(d.2.2.2.1.getD (d.1.toNat) ([],([],())))
    bif 0<=d.1&&d.1<(d.2.2.2.1.length:Int) then
     bif (0<=(i64.wrap (d.1+d.2.2.1))&&((i64.wrap (d.1+d.2.2.1)):Int)<(List.length (List.set d.2.2.2.1 (d.1.toNat) t0):Int)) then
      let t2:=(List.set (List.set d.2.2.2.1 (d.1.toNat) t0) (Int.toNat (i64.wrap (d.1+d.2.2.1))) t1)
      match B3 (d.2.1,d.2.2.1,d.1,t2,()) with
      |none=>none
      |some bP=>
       some (.inl (d.1,d.2.1,(i64.wrap (d.2.2.1-1)),bP.1,()))
     else none
    else none
   else none
  else none
 else
  some (.inr (.inl (d.2.2.2.1,())))
def R2:=b6 B5
def HY (d:l6):O (au×H):=
 let t0:=(i64.wrap ((i64.wrap (d.2.1-d.1))-1))
 let t1:=i64.wrap (Int.tdiv t0 2)
 match R1 (d.1,0,(i64.wrap (d.2.1-d.1)),t1,d.2.2.1,()) with
 |none=>none
 |some (.inl z2)=>
  let t3:=i64.wrap (z2.2.2.1-1)
  match R2 (z2.1,z2.2.1,t3,z2.2.2.2.1,()) with
  |none=>none
  |some (.inl z4)=>
   some (z4.1,())
  |some (.inr z4)=>
   none
 |some (.inr z2)=>
  none
def x1 (d:Int×Int×au×Int×H):O (Int×Int×au×Int×H):=
 bif 0<=d.2.1&&d.2.1<(d.2.2.1.length:Int) then
  let t0:=(d.2.2.1.getD (d.2.1.toNat) ([],([],())))
  bif 0<=d.1&&d.1<(d.2.2.1.length:Int) then
   let t1:=(d.2.2.1.getD (d.1.toNat) ([],([],())))
   match k8 (t0,t1,()) with
   |none=>none
   |some aS=>
    bif aS.1<0 then
     let t3:=i64.wrap (d.2.2.2.1+1)
     some (d.2.1,d.1,d.2.2.1,t3,())
    else
     some (d.1,d.2.1,d.2.2.1,d.2.2.2.1,())
  else none
 else none
def B7 (d:Int×Int×Int×au×Int×H):O K3:=
 match x1 (d.1,d.2.1,d.2.2.2.1,d.2.2.2.2.1,()) with
 |none=>none
 |some aa=>
  match x1 (aa.2.1,d.2.2.1,aa.2.2.1,aa.2.2.2.1,()) with
  |none=>none
  |some ag=>
   match x1 (aa.1,ag.1,ag.2.2.1,ag.2.2.2.1,()) with
   |none=>none
   |some aS=>
    some (aS.2.1,aS.2.2.1,aS.2.2.2.1,())
def xM (d:K3):O K3:=
 match B7 ((i64.wrap (d.1-1)),d.1,(i64.wrap (d.1+1)),d.2.1,d.2.2.1,()) with
 |none=>none
 |some aa=>
  some (aa.1,aa.2.1,aa.2.2.1,())
def Ho (d:Int×Int×Int×au×Int×H):O l6:=
 match B7 (d.1,d.2.1,d.2.2.1,d.2.2.2.1,d.2.2.2.2.1,()) with
 |none=>none
 |some aa=>
  bif aa.2.2.1=0 then
   some (aa.1,1,aa.2.1,())
  else
   bif aa.2.2.1=12 then
    some (aa.1,2,aa.2.1,())
   else
    some (aa.1,0,aa.2.1,())
def HG (d:l6):O l6:=
 let t0:=(i64.wrap (Int.tdiv (i64.wrap (d.2.1-d.1)) 4))
 let t1:=(i64.wrap (d.1+(i64.wrap (t0*1))))
 let t2:=(i64.wrap (Int.tdiv (i64.wrap (d.2.1-d.1)) 4))
 let t3:=(i64.wrap (d.1+(i64.wrap (t2*2))))
 let t4:=(i64.wrap (Int.tdiv (i64.wrap (d.2.1-d.1)) 4))
 let t5:=(i64.wrap (d.1+(i64.wrap (t4*3))))
 let t6:=(decide (((i64.wrap (d.2.1-d.1)):Int)>=8))
 bif t6 then
  let t7:=(decide (((i64.wrap (d.2.1-d.1)):Int)>=50))
  bif t7 then
   match xM (t1,d.2.2.1,0,()) with
   |none=>none
   |some Dw=>
    match xM (t3,Dw.2.1,Dw.2.2.1,()) with
    |none=>none
    |some SR=>
     match xM (t5,SR.2.1,SR.2.2.1,()) with
     |none=>none
     |some SP=>
      Ho (Dw.1,SR.1,SP.1,SP.2.1,SP.2.2.1,())
  else
   Ho (t1,t3,t5,d.2.2.1,0,())
 else
  bif (0:Int)=0 then
   some (t3,1,d.2.2.1,())
  else
   let t7:=decide ((0:Int)=12)
   bif t7 then
    some (t3,2,d.2.2.1,())
   else
    some (t3,0,d.2.2.1,())
def BM (d:l6):O (l6⊕((au×H)⊕H)):=
 bif d.1<d.2.1 then
  bif 0<=d.2.1&&d.2.1<(d.2.2.1.length:Int) then
   let t0:=(d.2.2.1.getD (d.2.1.toNat) ([],([],())))
   bif 0<=d.1&&d.1<(d.2.2.1.length:Int) then
    let t1:=(d.2.2.1.getD (d.1.toNat) ([],([],())))
    bif 0<=d.1&&d.1<(d.2.2.1.length:Int) then
     bif (0<=d.2.1&&d.2.1<(List.length (List.set d.2.2.1 (d.1.toNat) t0):Int)) then
      let t2:=(List.set (List.set d.2.2.1 (d.1.toNat) t0) (d.2.1.toNat) t1)
      some (.inl ((i64.wrap (d.1+1)),(i64.wrap (d.2.1-1)),t2,()))
     else none
    else none
   else none
  else none
 else
  some (.inr (.inl (d.2.2.1,())))
def QJ:=b6 BM
def BU (d:l6):O (au×H):=
 match QJ (d.1,(i64.wrap (d.2.1-1)),d.2.2.1,()) with
 |none=>none
 |some (.inl z0)=>
  some (z0.1,())
 |some (.inr z0)=>
  none
def BJ (d:l5):O (l5⊕(l5⊕H)):=
 bif d.2.2.1<d.2.1 then
  bif 0<=d.2.2.1&&d.2.2.1<(d.2.2.2.2.1.length:Int) then
   let t0:=(d.2.2.2.2.1.getD (d.2.2.1.toNat) ([],([],())))
   bif (0<=(i64.wrap (d.2.2.1-1))&&((i64.wrap (d.2.2.1-1)):Int)<(d.2.2.2.2.1.length:Int)) then
    let t1:=(d.2.2.2.2.1.getD (Int.toNat (i64.wrap (d.2.2.1-1))) ([],([],())))
    match k8 (t0,t1,()) with
    |none=>none
    |some aS=>
     bif (!(decide (aS.1<0))) then
      some (.inl (d.1,d.2.1,(i64.wrap (d.2.2.1+1)),d.2.2.2.1,d.2.2.2.2.1,()))
     else
      some (.inr (.inl (d.1,d.2.1,d.2.2.1,d.2.2.2.1,d.2.2.2.2.1,())))
   else none
  else none
 else
  some (.inr (.inl (d.1,d.2.1,d.2.2.1,d.2.2.2.1,d.2.2.2.2.1,())))
def Hh:=b6 BJ
def BK (d:w1):O (w1⊕(l5⊕H)):=
 let t0:=decide (d.2.2.2.2.1>=1)
 bif t0 then
  bif 0<=d.2.2.2.2.1&&d.2.2.2.2.1<(d.2.2.2.2.2.1.length:Int) then
   let t1:=(d.2.2.2.2.2.1.getD (d.2.2.2.2.1.toNat) ([],([],())))
   let t2:=i64.wrap (d.2.2.2.2.1-1)
   bif 0<=t2&&t2<(d.2.2.2.2.2.1.length:Int) then
    let t3:=(d.2.2.2.2.2.1.getD (t2.toNat) ([],([],())))
    match k8 (t1,t3,()) with
    |none=>none
    |some dz=>
     bif (!(decide (dz.1<0))) then
      some (.inr (.inl (d.1,d.2.1,d.2.2.1,d.2.2.2.1,d.2.2.2.2.2.1,())))
     else
      let t5:=i64.wrap (d.2.2.2.2.1-1)
      let t6:=i64.wrap (d.2.2.2.2.1-1)
      bif 0<=t6&&t6<(d.2.2.2.2.2.1.length:Int) then
       let t7:=(d.2.2.2.2.2.1.getD (t6.toNat) ([],([],())))
       bif 0<=d.2.2.2.2.1&&d.2.2.2.2.1<(d.2.2.2.2.2.1.length:Int) then
        let t8:=(d.2.2.2.2.2.1.getD (d.2.2.2.2.1.toNat) ([],([],())))
        bif 0<=d.2.2.2.2.1&&d.2.2.2.2.1<(d.2.2.2.2.2.1.length:Int) then
         let t9:=(List.set d.2.2.2.2.2.1 (d.2.2.2.2.1.toNat) t7)
         bif 0<=t5&&t5<(t9.length:Int) then
          let t10:=i64.wrap (d.2.2.2.2.1-1)
          some (.inl (d.1,d.2.1,d.2.2.1,d.2.2.2.1,t10,(List.set t9 (t5.toNat) t8),()))
         else none
        else none
       else none
      else none
   else none
  else none
 else
  some (.inr (.inl (d.1,d.2.1,d.2.2.1,d.2.2.2.1,d.2.2.2.2.2.1,())))
def Hi:=b6 BK
def BB (d:w1):O (w1⊕(l5⊕H)):=
 bif d.2.2.2.2.1<d.2.1 then
  bif 0<=d.2.2.2.2.1&&d.2.2.2.2.1<(d.2.2.2.2.2.1.length:Int) then
   let t0:=(d.2.2.2.2.2.1.getD (d.2.2.2.2.1.toNat) ([],([],())))
   let t1:=i64.wrap (d.2.2.2.2.1-1)
   bif 0<=t1&&t1<(d.2.2.2.2.2.1.length:Int) then
    let t2:=(d.2.2.2.2.2.1.getD (t1.toNat) ([],([],())))
    match k8 (t0,t2,()) with
    |none=>none
    |some bP=>
     bif (!(decide (bP.1<0))) then
      some (.inr (.inl (d.1,d.2.1,d.2.2.1,d.2.2.2.1,d.2.2.2.2.2.1,())))
     else
      let t4:=i64.wrap (d.2.2.2.2.1-1)
      let t5:=i64.wrap (d.2.2.2.2.1-1)
      bif 0<=t5&&t5<(d.2.2.2.2.2.1.length:Int) then
       let t6:=(d.2.2.2.2.2.1.getD (t5.toNat) ([],([],())))
       bif 0<=d.2.2.2.2.1&&d.2.2.2.2.1<(d.2.2.2.2.2.1.length:Int) then
        let t7:=(d.2.2.2.2.2.1.getD (d.2.2.2.2.1.toNat) ([],([],())))
        bif 0<=d.2.2.2.2.1&&d.2.2.2.2.1<(d.2.2.2.2.2.1.length:Int) then
         let t8:=(List.set d.2.2.2.2.2.1 (d.2.2.2.2.1.toNat) t6)
         bif 0<=t4&&t4<(t8.length:Int) then
          let t9:=i64.wrap (d.2.2.2.2.1+1)
          some (.inl (d.1,d.2.1,d.2.2.1,d.2.2.2.1,t9,(List.set t8 (t4.toNat) t7),()))
         else none
        else none
       else none
      else none
   else none
  else none
 else
  some (.inr (.inl (d.1,d.2.1,d.2.2.1,d.2.2.2.1,d.2.2.2.2.2.1,())))
def Hj:=b6 BB
def BH (d:l5):O (l5⊕((Bool×au×H)⊕(au×H))):=
 let t0:=(decide (((i64.wrap (d.2.1-d.2.2.1)):Int)>=2))
 bif t0 then
  match Hj (d.1,d.2.1,d.2.2.1,d.2.2.2.1,(i64.wrap (d.2.2.1+1)),d.2.2.2.2.1,()) with
  |none=>none
  |some (.inl aD)=>
   let t2:=i64.wrap (aD.2.2.2.1+1)
   some (.inl (aD.1,aD.2.1,aD.2.2.1,t2,aD.2.2.2.2.1,()))
  |some (.inr aD)=>
   none
 else
  let t1:=i64.wrap (d.2.2.2.1+1)
  some (.inl (d.1,d.2.1,d.2.2.1,t1,d.2.2.2.2.1,()))
def BI (d:l5):O (l5⊕((Bool×au×H)⊕(au×H))):=
 bif d.2.2.2.1<5 then
  match Hh (d.1,d.2.1,d.2.2.1,d.2.2.2.1,d.2.2.2.2.1,()) with
  |none=>none
  |some (.inl z0)=>
   bif z0.2.2.1=z0.2.1 then
    some (.inr (.inl (true,z0.2.2.2.2.1,())))
   else
    let t1:=(decide (((i64.wrap (z0.2.1-z0.1)):Int)<50))
    bif t1 then
     some (.inr (.inl (false,z0.2.2.2.2.1,())))
    else
     let t2:=i64.wrap (z0.2.2.1-1)
     let t3:=i64.wrap (z0.2.2.1-1)
     bif 0<=t3&&t3<(z0.2.2.2.2.1.length:Int) then
      let t4:=(z0.2.2.2.2.1.getD (t3.toNat) ([],([],())))
      bif 0<=z0.2.2.1&&z0.2.2.1<(z0.2.2.2.2.1.length:Int) then
       let t5:=(z0.2.2.2.2.1.getD (z0.2.2.1.toNat) ([],([],())))
       bif 0<=z0.2.2.1&&z0.2.2.1<(z0.2.2.2.2.1.length:Int) then
        let t6:=(List.set z0.2.2.2.2.1 (z0.2.2.1.toNat) t4)
        bif 0<=t2&&t2<(t6.length:Int) then
         let t7:=(decide (((i64.wrap (z0.2.2.1-z0.1)):Int)>=2))
         bif t7 then
          let t8:=i64.wrap (z0.2.2.1-1)
          match Hi (z0.1,z0.2.1,z0.2.2.1,z0.2.2.2.1,t8,(List.set t6 (t2.toNat) t5),()) with
          |none=>none
          |some (.inl z9)=>
           BH (z9.1,z9.2.1,z9.2.2.1,z9.2.2.2.1,z9.2.2.2.2.1,())
          |some (.inr z9)=>
           none
         else
          BH (z0.1,z0.2.1,z0.2.2.1,z0.2.2.2.1,(List.set t6 (t2.toNat) t5),())
        else none
       else none
      else none
     else none
  |some (.inr z0)=>
   none
 else
  some (.inr (.inr (d.2.2.2.2.1,())))
def P4:=b6 BI
def BD (d:l6):O (Bool×au×H):=
 match P4 (d.1,d.2.1,(i64.wrap (d.1+1)),0,d.2.2.1,()) with
 |none=>none
 |some (.inl z0)=>
  some (z0.1,z0.2.1,())
 |some (.inr z0)=>
  some (false,z0.1,())
def Hy (d:eX):O (eX⊕(eX⊕H)):=
 bif d.2.1<=d.2.2.1 then
  bif 0<=d.1&&d.1<(d.2.2.2.1.length:Int) then
   let t0:=(d.2.2.2.1.getD (d.1.toNat) ([],([],())))
   bif 0<=d.2.1&&d.2.1<(d.2.2.2.1.length:Int) then
    let t1:=(d.2.2.2.1.getD (d.2.1.toNat) ([],([],())))
    match k8 (t0,t1,()) with
    |none=>none
    |some aS=>
     bif (!(decide (aS.1<0))) then
      some (.inl (d.1,(i64.wrap (d.2.1+1)),d.2.2.1,d.2.2.2.1,()))
     else
      some (.inr (.inl (d.1,d.2.1,d.2.2.1,d.2.2.2.1,())))
   else none
  else none
 else
  some (.inr (.inl (d.1,d.2.1,d.2.2.1,d.2.2.2.1,())))
def Qw:=b6 Hy
def Hz (d:eX):O (eX⊕(eX⊕H)):=
 bif d.2.1<=d.2.2.1 then
  bif 0<=d.1&&d.1<(d.2.2.2.1.length:Int) then
   let t0:=(d.2.2.2.1.getD (d.1.toNat) ([],([],())))
   bif 0<=d.2.2.1&&d.2.2.1<(d.2.2.2.1.length:Int) then
    let t1:=(d.2.2.2.1.getD (d.2.2.1.toNat) ([],([],())))
    match k8 (t0,t1,()) with
    |none=>none
    |some aS=>
     bif aS.1<0 then
      some (.inl (d.1,d.2.1,(i64.wrap (d.2.2.1-1)),d.2.2.2.1,()))
     else
      some (.inr (.inl (d.1,d.2.1,d.2.2.1,d.2.2.2.1,())))
   else none
  else none
 else
  some (.inr (.inl (d.1,d.2.1,d.2.2.1,d.2.2.2.1,())))
def Qx:=b6 Hz
def Hx (d:eX):O (eX⊕((Int×au×H)⊕H)):=
 match Qw (d.1,d.2.1,d.2.2.1,d.2.2.2.1,()) with
 |none=>none
 |some (.inl z0)=>
  match Qx (z0.1,z0.2.1,z0.2.2.1,z0.2.2.2.1,()) with
  |none=>none
  |some (.inl aD)=>
   bif aD.2.1>aD.2.2.1 then
    some (.inr (.inl (aD.2.1,aD.2.2.2.1,())))
   else
    bif 0<=aD.2.2.1&&aD.2.2.1<(aD.2.2.2.1.length:Int) then
     let t2:=(aD.2.2.2.1.getD (aD.2.2.1.toNat) ([],([],())))
     bif 0<=aD.2.1&&aD.2.1<(aD.2.2.2.1.length:Int) then
      let t3:=(aD.2.2.2.1.getD (aD.2.1.toNat) ([],([],())))
      bif 0<=aD.2.1&&aD.2.1<(aD.2.2.2.1.length:Int) then
       let t4:=(List.set aD.2.2.2.1 (aD.2.1.toNat) t2)
       bif 0<=aD.2.2.1&&aD.2.2.1<(t4.length:Int) then
        let t5:=i64.wrap (aD.2.2.1-1)
        some (.inl (aD.1,(i64.wrap (aD.2.1+1)),t5,(List.set t4 (aD.2.2.1.toNat) t3),()))
       else none
      else none
     else none
    else none
  |some (.inr aD)=>
   none
 |some (.inr z0)=>
  none
def dl:=b6 Hx
def BO (d:eX):O (Int×au×H):=
 bif 0<=d.2.2.1&&d.2.2.1<(d.2.2.2.1.length:Int) then
  let t0:=(d.2.2.2.1.getD (d.2.2.1.toNat) ([],([],())))
  bif 0<=d.1&&d.1<(d.2.2.2.1.length:Int) then
   let t1:=(d.2.2.2.1.getD (d.1.toNat) ([],([],())))
   bif 0<=d.1&&d.1<(d.2.2.2.1.length:Int) then
    bif (0<=d.2.2.1&&d.2.2.1<(List.length (List.set d.2.2.2.1 (d.1.toNat) t0):Int)) then
     let t2:=(List.set (List.set d.2.2.2.1 (d.1.toNat) t0) (d.2.2.1.toNat) t1)
     match dl (d.1,(i64.wrap (d.1+1)),(i64.wrap (d.2.1-1)),t2,()) with
     |none=>none
     |some (.inl z3)=>
      some (z3.1,z3.2.1,())
     |some (.inr z3)=>
      none
    else none
   else none
  else none
 else none
def HO (d:eX):O (eX⊕(eX⊕H)):=
 bif d.2.1<=d.2.2.1 then
  bif 0<=d.2.1&&d.2.1<(d.2.2.2.1.length:Int) then
   let t0:=(d.2.2.2.1.getD (d.2.1.toNat) ([],([],())))
   bif 0<=d.1&&d.1<(d.2.2.2.1.length:Int) then
    let t1:=(d.2.2.2.1.getD (d.1.toNat) ([],([],())))
    match k8 (t0,t1,()) with
    |none=>none
    |some aS=>
     bif aS.1<0 then
      some (.inl (d.1,(i64.wrap (d.2.1+1)),d.2.2.1,d.2.2.2.1,()))
     else
      some (.inr (.inl (d.1,d.2.1,d.2.2.1,d.2.2.2.1,())))
   else none
  else none
 else
  some (.inr (.inl (d.1,d.2.1,d.2.2.1,d.2.2.2.1,())))
def Sc:=b6 HO
def HP (d:eX):O (eX⊕(eX⊕H)):=
 bif d.2.1<=d.2.2.1 then
  bif 0<=d.2.2.1&&d.2.2.1<(d.2.2.2.1.length:Int) then
   let t0:=(d.2.2.2.1.getD (d.2.2.1.toNat) ([],([],())))
   bif 0<=d.1&&d.1<(d.2.2.2.1.length:Int) then
    let t1:=(d.2.2.2.1.getD (d.1.toNat) ([],([],())))
    match k8 (t0,t1,()) with
    |none=>none
    |some aS=>
     bif (!(decide (aS.1<0))) then
      some (.inl (d.1,d.2.1,(i64.wrap (d.2.2.1-1)),d.2.2.2.1,()))
     else
      some (.inr (.inl (d.1,d.2.1,d.2.2.1,d.2.2.2.1,())))
   else none
  else none
 else
  some (.inr (.inl (d.1,d.2.1,d.2.2.1,d.2.2.2.1,())))
def Sd:=b6 HP
def HR (d:eX):O (eX⊕(eX⊕H)):=
 bif d.2.1<=d.2.2.1 then
  bif 0<=d.2.1&&d.2.1<(d.2.2.2.1.length:Int) then
   let t0:=(d.2.2.2.1.getD (d.2.1.toNat) ([],([],())))
   bif 0<=d.1&&d.1<(d.2.2.2.1.length:Int) then
    let t1:=(d.2.2.2.1.getD (d.1.toNat) ([],([],())))
    match k8 (t0,t1,()) with
    |none=>none
    |some aS=>
     bif aS.1<0 then
      some (.inl (d.1,(i64.wrap (d.2.1+1)),d.2.2.1,d.2.2.2.1,()))
     else
      some (.inr (.inl (d.1,d.2.1,d.2.2.1,d.2.2.2.1,())))
   else none
  else none
 else
  some (.inr (.inl (d.1,d.2.1,d.2.2.1,d.2.2.2.1,())))
def Se:=b6 HR
def HS (d:eX):O (eX⊕(eX⊕H)):=
 bif d.2.1<=d.2.2.1 then
  bif 0<=d.2.2.1&&d.2.2.1<(d.2.2.2.1.length:Int) then
   let t0:=(d.2.2.2.1.getD (d.2.2.1.toNat) ([],([],())))
   bif 0<=d.1&&d.1<(d.2.2.2.1.length:Int) then
    let t1:=(d.2.2.2.1.getD (d.1.toNat) ([],([],())))
    match k8 (t0,t1,()) with
    |none=>none
    |some aS=>
     bif (!(decide (aS.1<0))) then
      some (.inl (d.1,d.2.1,(i64.wrap (d.2.2.1-1)),d.2.2.2.1,()))
     else
      some (.inr (.inl (d.1,d.2.1,d.2.2.1,d.2.2.2.1,())))
   else none
  else none
 else
  some (.inr (.inl (d.1,d.2.1,d.2.2.1,d.2.2.2.1,())))
def Sf:=b6 HS
def HQ (d:eX):O (eX⊕(l6⊕H)):=
 match Se (d.1,d.2.1,d.2.2.1,d.2.2.2.1,()) with
 |none=>none
 |some (.inl z0)=>
  match Sf (z0.1,z0.2.1,z0.2.2.1,z0.2.2.2.1,()) with
  |none=>none
  |some (.inl aD)=>
   bif aD.2.1>aD.2.2.1 then
    some (.inr (.inl (aD.1,aD.2.2.1,aD.2.2.2.1,())))
   else
    bif 0<=aD.2.2.1&&aD.2.2.1<(aD.2.2.2.1.length:Int) then
     let t2:=(aD.2.2.2.1.getD (aD.2.2.1.toNat) ([],([],())))
     bif 0<=aD.2.1&&aD.2.1<(aD.2.2.2.1.length:Int) then
      let t3:=(aD.2.2.2.1.getD (aD.2.1.toNat) ([],([],())))
      bif 0<=aD.2.1&&aD.2.1<(aD.2.2.2.1.length:Int) then
       let t4:=(List.set aD.2.2.2.1 (aD.2.1.toNat) t2)
       bif 0<=aD.2.2.1&&aD.2.2.1<(t4.length:Int) then
        let t5:=i64.wrap (aD.2.2.1-1)
        some (.inl (aD.1,(i64.wrap (aD.2.1+1)),t5,(List.set t4 (aD.2.2.1.toNat) t3),()))
       else none
      else none
     else none
    else none
  |some (.inr aD)=>
   none
 |some (.inr z0)=>
  none
def HT:=b6 HQ
def d9 (d:eX):O (Int×Bool×au×H):=
 bif 0<=d.2.2.1&&d.2.2.1<(d.2.2.2.1.length:Int) then
  let t0:=(d.2.2.2.1.getD (d.2.2.1.toNat) ([],([],())))
  bif 0<=d.1&&d.1<(d.2.2.2.1.length:Int) then
   let t1:=(d.2.2.2.1.getD (d.1.toNat) ([],([],())))
   bif 0<=d.1&&d.1<(d.2.2.2.1.length:Int) then
    bif (0<=d.2.2.1&&d.2.2.1<(List.length (List.set d.2.2.2.1 (d.1.toNat) t0):Int)) then
     let t2:=(List.set (List.set d.2.2.2.1 (d.1.toNat) t0) (d.2.2.1.toNat) t1)
     match Sc (d.1,(i64.wrap (d.1+1)),(i64.wrap (d.2.1-1)),t2,()) with
     |none=>none
     |some (.inl z3)=>
      match Sd (z3.1,z3.2.1,z3.2.2.1,z3.2.2.2.1,()) with
      |none=>none
      |some (.inl z4)=>
       bif z4.2.1>z4.2.2.1 then
        bif 0<=z4.1&&z4.1<(z4.2.2.2.1.length:Int) then
         let t5:=(z4.2.2.2.1.getD (z4.1.toNat) ([],([],())))
         bif 0<=z4.2.2.1&&z4.2.2.1<(z4.2.2.2.1.length:Int) then
          let t6:=(z4.2.2.2.1.getD (z4.2.2.1.toNat) ([],([],())))
          bif 0<=z4.2.2.1&&z4.2.2.1<(z4.2.2.2.1.length:Int) then
           let t7:=(List.set z4.2.2.2.1 (z4.2.2.1.toNat) t5)
           bif 0<=z4.1&&z4.1<(t7.length:Int) then
            some (z4.2.2.1,true,(List.set t7 (z4.1.toNat) t6),())
           else none
          else none
         else none
        else none
       else
        bif 0<=z4.2.2.1&&z4.2.2.1<(z4.2.2.2.1.length:Int) then
         let t5:=(z4.2.2.2.1.getD (z4.2.2.1.toNat) ([],([],())))
         bif 0<=z4.2.1&&z4.2.1<(z4.2.2.2.1.length:Int) then
          let t6:=(z4.2.2.2.1.getD (z4.2.1.toNat) ([],([],())))
          bif 0<=z4.2.1&&z4.2.1<(z4.2.2.2.1.length:Int) then
           let t7:=(List.set z4.2.2.2.1 (z4.2.1.toNat) t5)
           bif 0<=z4.2.2.1&&z4.2.2.1<(t7.length:Int) then
            let t8:=i64.wrap (z4.2.2.1-1)
            match HT (z4.1,(i64.wrap (z4.2.1+1)),t8,(List.set t7 (z4.2.2.1.toNat) t6),()) with
            |none=>none
            |some (.inl z9)=>
             bif 0<=z9.1&&z9.1<(z9.2.2.1.length:Int) then
              let t10:=(z9.2.2.1.getD (z9.1.toNat) ([],([],())))
              bif 0<=z9.2.1&&z9.2.1<(z9.2.2.1.length:Int) then
               let t11:=(z9.2.2.1.getD (z9.2.1.toNat) ([],([],())))
               bif 0<=z9.2.1&&z9.2.1<(z9.2.2.1.length:Int) then
                let t12:=(List.set z9.2.2.1 (z9.2.1.toNat) t10)
                bif 0<=z9.1&&z9.1<(t12.length:Int) then
                 some (z9.2.1,false,(List.set t12 (z9.1.toNat) t11),())
                else none
               else none
              else none
             else none
            |some (.inr z9)=>
             none
           else none
          else none
         else none
        else none
      |some (.inr z4)=>
       none
     |some (.inr z3)=>
      none
    else none
   else none
  else none
 else none
def IN (d:Int×H):O (Int×H):=
 match y2 ((IntKind.u64.wrap d.1),()) with
 |none=>none
 |some aa=>
  bif aa.1<0 then
   none
  else
   let t1:=(IntKind.u64.wrap (1*2^(min (aa.1.toNat) IntKind.u64.bits)))
   some (t1,())
def SW (d:Int×H):O lS:=
 let t0:=(IntKind.u64.wrap (d.1*2^(min (Int.toNat 13) IntKind.u64.bits)))
 let t1:=(IntKind.u64.wrap ((BitVec.ofInt IntKind.u64.bits d.1 ^^^ BitVec.ofInt IntKind.u64.bits t0).toNat:Int))
 let t2:Int:=(Int.fdiv t1 (2^(min (Int.toNat 7) IntKind.u64.bits)))
 let t3:=(IntKind.u64.wrap ((BitVec.ofInt IntKind.u64.bits t1 ^^^ BitVec.ofInt IntKind.u64.bits t2).toNat:Int))
 let t4:=(IntKind.u64.wrap (t3*2^(min (Int.toNat 17) IntKind.u64.bits)))
 let t5:=(IntKind.u64.wrap ((BitVec.ofInt IntKind.u64.bits t3 ^^^ BitVec.ofInt IntKind.u64.bits t4).toNat:Int))
 some (t5,t5,())
def Hf (d:Int×Int×Int×Int×Int×au×Int×H):O (K6⊕((au×H)⊕H)):=
 bif (0<=(i64.wrap (d.1+d.2.2.2.2.1))&&((i64.wrap (d.1+d.2.2.2.2.1)):Int)<(d.2.2.2.2.2.1.length:Int)) then
  let t0:=(d.2.2.2.2.2.1.getD (Int.toNat (i64.wrap (d.1+d.2.2.2.2.1))) ([],([],())))
  bif 0<=d.2.2.2.1&&d.2.2.2.1<(d.2.2.2.2.2.1.length:Int) then
   let t1:=(d.2.2.2.2.2.1.getD (d.2.2.2.1.toNat) ([],([],())))
   bif 0<=d.2.2.2.1&&d.2.2.2.1<(d.2.2.2.2.2.1.length:Int) then
    let t2:=(List.set d.2.2.2.2.2.1 (d.2.2.2.1.toNat) t0)
    bif (0<=(i64.wrap (d.1+d.2.2.2.2.1))&&((i64.wrap (d.1+d.2.2.2.2.1)):Int)<(t2.length:Int)) then
     let t3:=(List.set t2 (Int.toNat (i64.wrap (d.1+d.2.2.2.2.1))) t1)
     let t4:=i64.wrap (d.2.2.2.1+1)
     some (.inl (d.1,d.2.1,d.2.2.1,t4,t3,d.2.2.2.2.2.2.1,()))
    else none
   else none
  else none
 else none
def co (d:K6):O (K6⊕((au×H)⊕H)):=
 let t0:=i64.wrap (Int.tdiv d.2.1 4)
 let t1:=(i64.wrap (d.1+(i64.wrap (t0*2))))
 let t2:=(decide (d.2.2.2.1<=(i64.wrap (t1+1))))
 bif t2 then
  match SW (d.2.2.2.2.2.1,()) with
  |none=>none
  |some bP=>
   let t4:=(IntKind.u64.wrap ((BitVec.ofInt IntKind.u64.bits bP.1 &&& BitVec.ofInt IntKind.u64.bits (IntKind.u64.wrap (d.2.2.1-1))).toNat:Int))
   let t5:=(decide (((i64.wrap t4):Int)>=d.2.1))
   bif t5 then
    let t6:=i64.wrap ((i64.wrap t4)-d.2.1)
    Hf (d.1,d.2.1,d.2.2.1,d.2.2.2.1,t6,d.2.2.2.2.1,bP.2.1,())
   else
    Hf (d.1,d.2.1,d.2.2.1,d.2.2.2.1,(i64.wrap t4),d.2.2.2.2.1,bP.2.1,())
 else
  some (.inr (.inl (d.2.2.2.2.1,())))
def Qd:=b6 co
def Hp (d:l6):O (au×H):=
 let t0:=(decide (((i64.wrap (d.2.1-d.1)):Int)>=8))
 bif t0 then
  let t1:=(IntKind.u64.wrap (i64.wrap (d.2.1-d.1)))
  match IN ((i64.wrap (d.2.1-d.1)),()) with
  |none=>none
  |some aS=>
   let t3:=(i64.wrap (Int.tdiv (i64.wrap (d.2.1-d.1)) 4))
   let t4:=(i64.wrap (d.1+(i64.wrap (t3*2))))
   match Qd (d.1,(i64.wrap (d.2.1-d.1)),aS.1,(i64.wrap (t4-1)),d.2.2.1,t1,()) with
   |none=>none
   |some (.inl z5)=>
    some (z5.1,())
   |some (.inr z5)=>
    none
 else
  some (d.2.2.1,())
def ns (cm:eX->O (au×H)) (d:Uh):O (Uk⊕(au×H)):=
 bif d.2.2.2.2.2.2.2.1 then
  match BD (d.1,d.2.1,d.2.2.2.2.2.2.2.2.1,()) with
  |none=>none
  |some aa=>
   bif aa.1 then
    some (.inr (aa.2.1,()))
   else
    some (.inl (d.1,d.2.1,d.2.2.1,d.2.2.2.1,d.2.2.2.2.1,d.2.2.2.2.2.1,d.2.2.2.2.2.2.1,aa.2.1,()))
 else
  some (.inl (d.1,d.2.1,d.2.2.1,d.2.2.2.1,d.2.2.2.2.1,d.2.2.2.2.2.1,d.2.2.2.2.2.2.1,d.2.2.2.2.2.2.2.2.1,()))
def pK (cm:eX->O (au×H)) (d:Uh):O (w1⊕qC):=
 bif d.2.2.2.2.2.2.2.1 then
  match BO (d.1,d.2.1,d.2.2.2.2.2.2.1,d.2.2.2.2.2.2.2.2.1,()) with
  |none=>none
  |some aa=>
   some (.inr (aa.1,d.2.1,d.2.2.1,d.2.2.2.1,d.2.2.2.2.1,aa.2.1,()))
 else
  some (.inl (d.1,d.2.1,d.2.2.1,d.2.2.2.2.2.1,d.2.2.2.2.2.2.1,d.2.2.2.2.2.2.2.2.1,()))
def qR (cm:eX->O (au×H)) (d:w1):O (qC⊕H):=
 match d9 (d.1,d.2.1,d.2.2.2.2.1,d.2.2.2.2.2.1,()) with
 |none=>none
 |some aa=>
  let t1:=i64.wrap (Int.tdiv d.2.2.2.1 8)
  let t2:=(decide (((i64.wrap (aa.1-d.1)):Int)<(i64.wrap (d.2.1-aa.1))))
  bif t2 then
   let t3:=(decide (((i64.wrap (aa.1-d.1)):Int)>=t1))
   match cm (d.1,aa.1,d.2.2.1,aa.2.2.1,()) with
   |none=>none
   |some dz=>
    some (.inl ((i64.wrap (aa.1+1)),d.2.1,d.2.2.1,t3,aa.2.1,dz.1,()))
  else
   let t3:=(decide (((i64.wrap (d.2.1-aa.1)):Int)>=t1))
   match cm ((i64.wrap (aa.1+1)),d.2.1,d.2.2.1,aa.2.2.1,()) with
   |none=>none
   |some dz=>
    some (.inl (d.1,aa.1,d.2.2.1,t3,aa.2.1,dz.1,()))
def l8 (cm:eX->O (au×H)) (d:Uk):O (qC⊕qC):=
 bif d.1>0 then
  bif (0<=(i64.wrap (d.1-1))&&((i64.wrap (d.1-1)):Int)<(d.2.2.2.2.2.2.2.1.length:Int)) then
   let t0:=(d.2.2.2.2.2.2.2.1.getD (Int.toNat (i64.wrap (d.1-1))) ([],([],())))
   bif 0<=d.2.2.2.2.2.2.1&&d.2.2.2.2.2.2.1<(d.2.2.2.2.2.2.2.1.length:Int) then
    let t1:=(d.2.2.2.2.2.2.2.1.getD (d.2.2.2.2.2.2.1.toNat) ([],([],())))
    match k8 (t0,t1,()) with
    |none=>none
    |some aS=>
     match pK cm (d.1,d.2.1,d.2.2.1,d.2.2.2.1,d.2.2.2.2.1,d.2.2.2.2.2.1,d.2.2.2.2.2.2.1,(!(decide (aS.1<0))),d.2.2.2.2.2.2.2.1,()) with
     |none=>none
     |some (.inl z3)=>
      match qR cm (z3.1,z3.2.1,z3.2.2.1,z3.2.2.2.1,z3.2.2.2.2.1,z3.2.2.2.2.2.1,()) with
      |none=>none
      |some (.inl z4)=>
       some (.inl (z4.1,z4.2.1,z4.2.2.1,z4.2.2.2.1,z4.2.2.2.2.1,z4.2.2.2.2.2.1,()))
      |some (.inr z4)=>
       none
     |some (.inr z3)=>
      some (.inr (z3.1,z3.2.1,z3.2.2.1,z3.2.2.2.1,z3.2.2.2.2.1,z3.2.2.2.2.2.1,()))
   else none
  else none
 else
  match pK cm (d.1,d.2.1,d.2.2.1,d.2.2.2.1,d.2.2.2.2.1,d.2.2.2.2.2.1,d.2.2.2.2.2.2.1,false,d.2.2.2.2.2.2.2.1,()) with
  |none=>none
  |some (.inl z0)=>
   match qR cm (z0.1,z0.2.1,z0.2.2.1,z0.2.2.2.1,z0.2.2.2.2.1,z0.2.2.2.2.2.1,()) with
   |none=>none
   |some (.inl aD)=>
    some (.inl (aD.1,aD.2.1,aD.2.2.1,aD.2.2.2.1,aD.2.2.2.2.1,aD.2.2.2.2.2.1,()))
   |some (.inr aD)=>
    none
  |some (.inr z0)=>
   some (.inr (z0.1,z0.2.1,z0.2.2.1,z0.2.2.2.1,z0.2.2.2.2.1,z0.2.2.2.2.2.1,()))
def Hs (cm:eX->O (au×H)) (d:Int×Int×Int×Bool×Bool×Int×Int×Int×au×H):O (qC⊕((au×H)⊕H)):=
 bif d.2.2.2.1 then
  bif d.2.2.2.2.1 then
   let t0:=decide (d.2.2.2.2.2.2.2.1=1)
   match ns cm (d.1,d.2.1,d.2.2.1,d.2.2.2.1,d.2.2.2.2.1,d.2.2.2.2.2.1,d.2.2.2.2.2.2.1,t0,d.2.2.2.2.2.2.2.2.1,()) with
   |none=>none
   |some (.inl aD)=>
    match l8 cm (aD.1,aD.2.1,aD.2.2.1,aD.2.2.2.1,aD.2.2.2.2.1,aD.2.2.2.2.2.1,aD.2.2.2.2.2.2.1,aD.2.2.2.2.2.2.2.1,()) with
    |none=>none
    |some (.inl z2)=>
     some (.inl (z2.1,z2.2.1,z2.2.2.1,z2.2.2.2.1,z2.2.2.2.2.1,z2.2.2.2.2.2.1,()))
    |some (.inr z2)=>
     some (.inl (z2.1,z2.2.1,z2.2.2.1,z2.2.2.2.1,z2.2.2.2.2.1,z2.2.2.2.2.2.1,()))
   |some (.inr aD)=>
    some (.inr (.inl (aD.1,())))
  else
   match ns cm (d.1,d.2.1,d.2.2.1,d.2.2.2.1,d.2.2.2.2.1,d.2.2.2.2.2.1,d.2.2.2.2.2.2.1,false,d.2.2.2.2.2.2.2.2.1,()) with
   |none=>none
   |some (.inl z0)=>
    match l8 cm (z0.1,z0.2.1,z0.2.2.1,z0.2.2.2.1,z0.2.2.2.2.1,z0.2.2.2.2.2.1,z0.2.2.2.2.2.2.1,z0.2.2.2.2.2.2.2.1,()) with
    |none=>none
    |some (.inl aD)=>
     some (.inl (aD.1,aD.2.1,aD.2.2.1,aD.2.2.2.1,aD.2.2.2.2.1,aD.2.2.2.2.2.1,()))
    |some (.inr aD)=>
     some (.inl (aD.1,aD.2.1,aD.2.2.1,aD.2.2.2.1,aD.2.2.2.2.1,aD.2.2.2.2.2.1,()))
   |some (.inr z0)=>
    some (.inr (.inl (z0.1,())))
 else
  match ns cm (d.1,d.2.1,d.2.2.1,d.2.2.2.1,d.2.2.2.2.1,d.2.2.2.2.2.1,d.2.2.2.2.2.2.1,false,d.2.2.2.2.2.2.2.2.1,()) with
  |none=>none
  |some (.inl z0)=>
   match l8 cm (z0.1,z0.2.1,z0.2.2.1,z0.2.2.2.1,z0.2.2.2.2.1,z0.2.2.2.2.2.1,z0.2.2.2.2.2.2.1,z0.2.2.2.2.2.2.2.1,()) with
   |none=>none
   |some (.inl aD)=>
    some (.inl (aD.1,aD.2.1,aD.2.2.1,aD.2.2.2.1,aD.2.2.2.2.1,aD.2.2.2.2.2.1,()))
   |some (.inr aD)=>
    some (.inl (aD.1,aD.2.1,aD.2.2.1,aD.2.2.2.1,aD.2.2.2.2.1,aD.2.2.2.2.2.1,()))
  |some (.inr z0)=>
   some (.inr (.inl (z0.1,())))
def Hr (cm:eX->O (au×H)) (d:Int×Int×Int×Bool×Bool×Int×au×H):O (qC⊕((au×H)⊕H)):=
 match HG (d.1,d.2.1,d.2.2.2.2.2.2.1,()) with
 |none=>none
 |some aa=>
  bif aa.2.1=2 then
   match BU (d.1,d.2.1,aa.2.2.1,()) with
   |none=>none
   |some ag=>
    let t2:=(i64.wrap ((i64.wrap (d.2.1-1))-(i64.wrap (aa.1-d.1))))
    Hs cm (d.1,d.2.1,d.2.2.1,d.2.2.2.1,d.2.2.2.2.1,d.2.2.2.2.2.1,t2,1,ag.1,())
  else
   Hs cm (d.1,d.2.1,d.2.2.1,d.2.2.2.1,d.2.2.2.2.1,d.2.2.2.2.2.1,aa.1,aa.2.1,aa.2.2.1,())
def xS (cm:eX->O (au×H)) (d:qC):O (qC⊕((au×H)⊕H)):=
 let t0:=(decide (((i64.wrap (d.2.1-d.1)):Int)<=12))
 bif t0 then
  match Hq (d.1,d.2.1,d.2.2.2.2.2.1,()) with
  |none=>none
  |some ag=>
   some (.inr (.inl (ag.1,())))
 else
  bif d.2.2.1=0 then
   match HY (d.1,d.2.1,d.2.2.2.2.2.1,()) with
   |none=>none
   |some ag=>
    some (.inr (.inl (ag.1,())))
  else
   bif !d.2.2.2.1 then
    match Hp (d.1,d.2.1,d.2.2.2.2.2.1,()) with
    |none=>none
    |some ag=>
     Hr cm (d.1,d.2.1,(i64.wrap (d.2.2.1-1)),d.2.2.2.1,d.2.2.2.2.1,(i64.wrap (d.2.1-d.1)),ag.1,())
   else
    Hr cm (d.1,d.2.1,d.2.2.1,d.2.2.2.1,d.2.2.2.2.1,(i64.wrap (d.2.1-d.1)),d.2.2.2.2.2.1,())
def HL (cm:eX->O (au×H)) (d:qC):O ((au×H)⊕H):=b6 (xS cm) d
def BT (cm:eX->O (au×H)) (d:eX):O (au×H):=
 match HL cm (d.1,d.2.1,d.2.2.1,true,true,d.2.2.2.1,()) with
 |none=>none
 |some (.inl z0)=>
  some (z0.1,())
 |some (.inr z0)=>
  none
def HU:Nat->eX->O (au×H)
 |0,_=>none
 |n+1,d=>BT (HU n) d
def Ss (d:eX):O (au×H):=HU jf d
def HK (d:au×H):O (au×H):=
 let t0:=(IntKind.u64.wrap ((d.1.length):Int))
 match y2 (t0,()) with
 |none=>none
 |some ag=>
  match Ss (0,((d.1.length):Int),ag.1,d.1,()) with
  |none=>none
  |some aS=>
   some (aS.1,())
def TT (d:Int×Int×Int×au×aL×au×H):O (Fc⊕((au×H)⊕H)):=
 bif (0<=(i64.wrap (d.1-1))&&((i64.wrap (d.1-1)):Int)<(d.2.2.2.1.length:Int)) then
  let t0:=(d.2.2.2.1.getD (Int.toNat (i64.wrap (d.1-1))) ([],([],())))
  match pT (t0.2.1,d.2.2.2.2.1.2.1,()) with
  |none=>none
  |some ag=>
   bif ag.1<0 then
    bif (0<=(i64.wrap (d.1-1))&&((i64.wrap (d.1-1)):Int)<(d.2.2.2.1.length:Int)) then
     let t2:=(List.set d.2.2.2.1 (Int.toNat (i64.wrap (d.1-1))) ((d.2.2.2.1.getD (Int.toNat (i64.wrap (d.1-1))) ([],([],()))).1,(d.2.2.2.2.1.2.1,(d.2.2.2.1.getD (Int.toNat (i64.wrap (d.1-1))) ([],([],()))).2.2)))
     some (.inl (d.2.1,(i64.wrap (d.2.2.1+1)),t2,d.2.2.2.2.2.1,()))
    else none
   else
    some (.inl (d.2.1,(i64.wrap (d.2.2.1+1)),d.2.2.2.1,d.2.2.2.2.2.1,()))
 else none
def vP (d:Int×Int×Int×Bool×au×aL×au×H):O (Fc⊕((au×H)⊕H)):=
 bif d.2.2.2.1 then
  bif ((d.2.2.2.2.1.length+List.length ([d.2.2.2.2.2.1]:au))*32<=am) then
   let t0:au:=(d.2.2.2.2.1++([d.2.2.2.2.2.1]:au))
   some (.inl (d.2.1,(i64.wrap (d.2.2.1+1)),t0,d.2.2.2.2.2.2.1,()))
  else none
 else
  TT (d.1,d.2.1,d.2.2.1,d.2.2.2.2.1,d.2.2.2.2.2.1,d.2.2.2.2.2.2.1,())
def ts (d:Fc):O (Fc⊕((au×H)⊕H)):=
 bif d.2.1<d.1 then
  bif 0<=d.2.1&&d.2.1<(d.2.2.2.1.length:Int) then
   let t0:=(d.2.2.2.1.getD (d.2.1.toNat) ([],([],())))
   let t1:=(decide ((((d.2.2.1.length):Int):Int)=0))
   bif !t1 then
    let t2:=(i64.wrap (((d.2.2.1.length):Int)-1))
    bif 0<=t2&&t2<(d.2.2.1.length:Int) then
     let t3:=(d.2.2.1.getD (t2.toNat) ([],([],())))
     let t4:=(!decide ((t3.2.1:N)=[]))
     bif t4 then
      let t5:=(i64.wrap (((d.2.2.1.length):Int)-1))
      bif 0<=t5&&t5<(d.2.2.1.length:Int) then
       let t6:=(d.2.2.1.getD (t5.toNat) ([],([],())))
       vP (((d.2.2.1.length):Int),d.1,d.2.1,(Op.bytesLess t6.2.1 t0.1),d.2.2.1,t0,d.2.2.2.1,())
      else none
     else
      vP (((d.2.2.1.length):Int),d.1,d.2.1,false,d.2.2.1,t0,d.2.2.2.1,())
    else none
   else
    vP (((d.2.2.1.length):Int),d.1,d.2.1,true,d.2.2.1,t0,d.2.2.2.1,())
  else none
 else
  some (.inr (.inl (d.2.2.1,())))
def Nz:=b6 ts
def wE (d:au×H):O (au×H):=
 match H6 (d.1,()) with
 |none=>none
 |some aa=>
  match BS (aa.1,()) with
  |none=>none
  |some ag=>
   match HK (ag.1,()) with
   |none=>none
   |some aS=>
    match Nz (((aS.1.length):Int),0,[],aS.1,()) with
    |none=>none
    |some (.inl z3)=>
     some (z3.1,())
    |some (.inr z3)=>
     none
def tt (d:T8):O (T8⊕((au×H)⊕(N×au×H))):=
 bif d.2.2.2.1<d.2.2.1 then
  bif 0<=d.2.2.2.1&&d.2.2.2.1<(d.2.1.length:Int) then
   let t0:=(d.2.1.getD (d.2.2.2.1.toNat) ([],([],())))
   let t1:=(!decide ((t0.1:N)=[]))
   bif t1 then
    bif ((d.2.2.2.2.1.length+List.length ([(d.1,(t0.1,()))]:au))*32<=am) then
     let t2:au:=(d.2.2.2.2.1++([(d.1,(t0.1,()))]:au))
     let t3:=decide ((t0.2.1:N)=[])
     bif t3 then
      some (.inr (.inl (t2,())))
     else
      let t4:=i64.wrap (d.2.2.2.1+1)
      some (.inl (t0.2.1,d.2.1,d.2.2.1,t4,t2,()))
    else none
   else
    let t2:=decide ((t0.2.1:N)=[])
    bif t2 then
     some (.inr (.inl (d.2.2.2.2.1,())))
    else
     let t3:=i64.wrap (d.2.2.2.1+1)
     some (.inl (t0.2.1,d.2.1,d.2.2.1,t3,d.2.2.2.2.1,()))
  else none
 else
  some (.inr (.inr (d.1,d.2.2.2.2.1,())))
def NB:=b6 tt
def AM (d:au×H):O (au×H):=
 match NB ([],d.1,((d.1.length):Int),0,[],()) with
 |none=>none
 |some (.inl z0)=>
  some (z0.1,())
 |some (.inr z0)=>
  bif ((z0.2.1.length+List.length ([(z0.1,([],()))]:au))*32<=am) then
   let t1:au:=(z0.2.1++([(z0.1,([],()))]:au))
   some (t1,())
  else none
def D3 (d:Ua):O (Ua⊕(KK⊕H)):=
 let t0:=decide (d.2.2.2.2.2.1<d.2.2.2.2.1)
 bif t0 then
  bif 0<=d.2.2.2.2.2.1&&d.2.2.2.2.2.1<(d.2.2.2.1.length:Int) then
   let t1:=(d.2.2.2.1.getD (d.2.2.2.2.2.1.toNat) ([],([],())))
   match tW (d.2.2.2.2.2.2.2.1,t1,()) with
   |none=>none
   |some aS=>
    bif ((d.2.2.2.2.2.2.1.length+List.length ([aS.1]:au))*32<=am) then
     let t3:au:=(d.2.2.2.2.2.2.1++([aS.1]:au))
     let t4:=i64.wrap (d.2.2.2.2.2.1+1)
     some (.inl (d.1,d.2.1,d.2.2.1,d.2.2.2.1,d.2.2.2.2.1,t4,t3,d.2.2.2.2.2.2.2.1,d.2.2.2.2.2.2.2.2.1,()))
    else none
  else none
 else
  some (.inr (.inl (d.1,d.2.1,d.2.2.1,d.2.2.2.2.2.2.1,d.2.2.2.2.2.2.2.2.1,())))
def MT:=b6 D3
def D2 (d:KK):O (KK⊕((au×H)⊕H)):=
 bif d.2.2.1<d.2.1 then
  bif 0<=d.2.2.1&&d.2.2.1<(d.2.2.2.2.1.length:Int) then
   let t0:=(d.2.2.2.2.1.getD (d.2.2.1.toNat) ([],([],())))
   match MT (d.1,d.2.1,d.2.2.1,d.1,((d.1.length):Int),0,d.2.2.2.1,t0,d.2.2.2.2.1,()) with
   |none=>none
   |some (.inl aD)=>
    let t2:=i64.wrap (aD.2.2.1+1)
    some (.inl (aD.1,aD.2.1,t2,aD.2.2.2.1,aD.2.2.2.2.1,()))
   |some (.inr aD)=>
    none
  else none
 else
  some (.inr (.inl (d.2.2.2.1,())))
def MS:=b6 D2
def FV (d:K1):O (au×H):=
 match wE (d.2.1,()) with
 |none=>none
 |some aa=>
  match AM (aa.1,()) with
  |none=>none
  |some ag=>
   match MS (d.1,((ag.1.length):Int),0,[],ag.1,()) with
   |none=>none
   |some (.inl z2)=>
    match wE (z2.1,()) with
    |none=>none
    |some bP=>
     some (bP.1,())
   |some (.inr z2)=>
    none
def zb (d:K1):O K1:=
 match FV (d.2.1,d.1,()) with
 |none=>none
 |some aa=>
  some (d.2.1,aa.1,())
def Ev (d:aL×N×N×H):O (aL×H):=
 match lX (d.2.2.1,()) with
 |none=>none
 |some aa=>
  match wz (d.1.1,d.2.1,d.2.2.1,()) with
  |none=>none
  |some ag=>
   match wz (d.1.2.1,d.2.1,d.2.2.1,()) with
   |none=>none
   |some aS=>
    bif aS.2.1 then
     some ((ag.1,(aS.1,())),())
    else
     some ((ag.1,(aa.1.2.1,())),())
def ya (d:Ui):O (Ui⊕((Int×au×au×H)⊕H)):=
 bif d.2.1<d.1 then
  bif 0<=d.2.1&&d.2.1<(d.2.2.2.1.length:Int) then
   let t0:=(d.2.2.2.1.getD (d.2.1.toNat) ([],([],())))
   match tW (t0,d.2.2.2.2.2.1,()) with
   |none=>none
   |some ag=>
    match la (ag.1,()) with
    |none=>none
    |some aS=>
     bif !aS.1 then
      match Ev (ag.1,d.2.2.2.2.1.2.2.2.2.2.1,d.2.2.2.2.1.2.2.2.2.1,()) with
      |none=>none
      |some bP=>
       bif ((d.2.2.2.2.2.2.1.length+List.length ([bP.1]:au))*32<=am) then
        let t4:au:=(d.2.2.2.2.2.2.1++([bP.1]:au))
        some (.inl (d.1,(i64.wrap (d.2.1+1)),d.2.2.1,d.2.2.2.1,d.2.2.2.2.1,d.2.2.2.2.2.1,t4,()))
       else none
     else
      some (.inl (d.1,(i64.wrap (d.2.1+1)),d.2.2.1,d.2.2.2.1,d.2.2.2.2.1,d.2.2.2.2.2.1,d.2.2.2.2.2.2.1,()))
  else none
 else
  some (.inr (.inl (d.2.2.1,d.2.2.2.1,d.2.2.2.2.2.2.1,())))
def SJ:=b6 ya
def Da (d:Int×au×bH×aL×au×H):O (Bool×Int×au×H):=
 match zb (d.2.2.2.2.1,d.2.1,()) with
 |none=>none
 |some aa=>
  match SJ (((aa.1.length):Int),0,d.1,aa.1,d.2.2.1,d.2.2.2.1,aa.2.1,()) with
  |none=>none
  |some (.inl aD)=>
   match wE (aD.2.2.1,()) with
   |none=>none
   |some aS=>
    bif aD.1= -1 then
     some (true,0,aS.1,())
    else none
  |some (.inr aD)=>
   none
def C7 (d:Bool×Int×au×bH×H):O (Bool×Int×au×H):=
 bif d.1 then
  match lX (d.2.2.2.1.2.2.2.2.2.1,()) with
  |none=>none
  |some aa=>
   let t1:=decide (d.2.2.2.1.1=4)
   bif t1 then
    match lX (d.2.2.2.1.2.2.2.2.1,()) with
    |none=>none
    |some aS=>
     bif ((List.length ([aa.1]:au)+List.length ([aS.1]:au))*32<=am) then
      let t3:au:=(([aa.1]:au)++([aS.1]:au))
      Da (d.2.1,d.2.2.1,d.2.2.2.1,aa.1,t3,())
     else none
   else
    Da (d.2.1,d.2.2.1,d.2.2.2.1,aa.1,([aa.1]:au),())
 else
  bif d.2.1= -1 then
   some (true,0,d.2.2.1,())
  else none
def sF (d:Int×Bool×Int×au×bH×H):O (Bool×Int×au×H):=
 bif d.2.1 then
  match qq (d.2.2.2.2.1.2.1,()) with
  |none=>none
  |some aa=>
   match zb (([aa.1]:au),d.2.2.2.1,()) with
   |none=>none
   |some ag=>
    bif d.2.2.1= -1 then
     some (true,0,ag.2.1,())
    else none
 else
  bif d.1=3 then
   match zb (([d.2.2.2.2.1.2.2.2.1]:au),d.2.2.2.1,()) with
   |none=>none
   |some aa=>
    bif d.2.2.1= -1 then
     some (true,0,aa.2.1,())
    else none
  else
   bif d.1=4 then
    C7 (true,d.2.2.1,d.2.2.2.1,d.2.2.2.2.1,())
   else
    C7 ((decide (d.1=5)),d.2.2.1,d.2.2.2.1,d.2.2.2.2.1,())
def pS (d:Int×bH×Int×au×H):O (Bool×Int×au×H):=
 bif d.2.2.1=0 then
  bif d.2.2.1=0 then
   bif d.2.1.1=1 then
    sF (d.2.1.1,true,(-1:Int),d.2.2.2.1,d.2.1,())
   else
    sF (d.2.1.1,(decide (d.2.1.1=2)),(-1:Int),d.2.2.2.1,d.2.1,())
  else none
 else none
def BG (d:Int×Int×cD×au×H):O ((Int×Int×cD×au×H)⊕(E8⊕E8)):=
 bif d.1>=0 then
  bif 0<=d.1&&d.1<(d.2.2.1.length:Int) then
   let t0:=(d.2.2.1.getD (d.1.toNat) (0,([],([],(([],([],())),([],([],(0,()))))))))
   match pS (d.1,t0,d.2.1,d.2.2.2.1,()) with
   |none=>none
   |some ag=>
    bif !ag.1 then
     some (.inr (.inl (ag.2.1,d.2.2.1,ag.2.2.1,())))
    else
     some (.inl ((i64.wrap (d.1-1)),ag.2.1,d.2.2.1,ag.2.2.1,()))
  else none
 else
  some (.inr (.inr (d.2.1,d.2.2.1,d.2.2.2.1,())))
def Qq:=b6 BG
def QP (d:E8):O E8:=
 let t0:=(i64.wrap (((d.2.1.length):Int)-1))
 match Qq (t0,d.1,d.2.1,d.2.2.1,()) with
 |none=>none
 |some (.inl aD)=>
  some (aD.1,aD.2.1,aD.2.2.1,())
 |some (.inr aD)=>
  some (aD.1,aD.2.1,aD.2.2.1,())
def Eu (d:aL×cD×H):O (au×H):=
 match wE (([d.1]:au),()) with
 |none=>none
 |some aa=>
  match HV (d.2.1,()) with
  |none=>none
  |some ag=>
   match QP (0,ag.1,aa.1,()) with
   |none=>none
   |some aS=>
    bif aS.1=0 then
     some (aS.2.2.1,())
    else
     bif aS.1=1 then
      some ([],())
     else none
def SZ (d:uw):O (Bool×aL×H):=
 match tW (d.1,d.2.1,()) with
 |none=>none
 |some aa=>
  match la (aa.1,()) with
  |none=>none
  |some ag=>
   some ((!ag.1),d.2.1,())
def Au (d:aj×cD×Int×Int×H):O ((aj×cD×Int×Int×H)⊕((aj×H)⊕H)):=
 bif d.2.2.2.1<d.2.2.1 then
  bif 0<=d.2.2.2.1&&d.2.2.2.1<(d.2.1.length:Int) then
   let t0:=(d.2.1.getD (d.2.2.2.1.toNat) (0,([],([],(([],([],())),([],([],(0,()))))))))
   match qk (d.1,t0,()) with
   |none=>none
   |some ag=>
    let t2:=i64.wrap (d.2.2.2.1+1)
    some (.inl (ag.1,d.2.1,d.2.2.1,t2,()))
  else none
 else
  some (.inr (.inl (d.1,())))
def N6:=b6 Au
def xg (d:aj×cD×H):O (aj×H):=
 match N6 (d.1,d.2.1,((d.2.1.length):Int),0,()) with
 |none=>none
 |some (.inl z0)=>
  some (z0.1,())
 |some (.inr z0)=>
  none
def TV (d:aL×ck×H):O (Bool×ck×H):=
 match pz (d.1,d.2.1.1,()) with
 |none=>none
 |some aa=>
  some (aa.1,d.2.1,())
def BZ (d:au×Int×Int×ck×H):O ((au×Int×Int×ck×H)⊕((Int×ck×H)⊕(ck×H))):=
 bif d.2.2.1<d.2.1 then
  bif 0<=d.2.2.1&&d.2.2.1<(d.1.length:Int) then
   let t0:=(d.1.getD (d.2.2.1.toNat) ([],([],())))
   match TV (t0,d.2.2.2.1,()) with
   |none=>none
   |some ag=>
    bif ag.1 then
     some (.inr (.inl (d.2.2.1,ag.2.1,())))
    else
     some (.inl (d.1,d.2.1,(i64.wrap (d.2.2.1+1)),ag.2.1,()))
  else none
 else
  some (.inr (.inr (d.2.2.2.1,())))
def Qs:=b6 BZ
def Hm (d:au×ck×H):O (Int×ck×H):=
 match Qs (d.1,((d.1.length):Int),0,d.2.1,()) with
 |none=>none
 |some (.inl z0)=>
  some (z0.1,z0.2.1,())
 |some (.inr z0)=>
  some ((-1:Int),z0.1,())
def BX (d:au×ck×H):O (Bool×ck×H):=
 match Hm (d.1,d.2.1,()) with
 |none=>none
 |some aa=>
  some ((decide (aa.1>=0)),aa.2.1,())
def D5 (d:ck×au×H):O (Bool×au×H):=
 match BX (d.2.1,d.1,()) with
 |none=>none
 |some aa=>
  some ((!aa.1),d.2.1,())
def BN (d:E7):O (E7⊕((Int×aj×au×H)⊕w0)):=
 bif d.2.1<d.1 then
  bif 0<=d.2.1&&d.2.1<(d.2.2.1.length:Int) then
   let t0:=(d.2.2.1.getD (d.2.1.toNat) ([],([],(0,()))))
   match D5 (t0,d.2.2.2.1,()) with
   |none=>none
   |some ag=>
    bif ag.1 then
     some (.inr (.inl (d.2.1,d.2.2.1,ag.2.1,())))
    else
     some (.inl (d.1,(i64.wrap (d.2.1+1)),d.2.2.1,ag.2.1,()))
  else none
 else
  some (.inr (.inr (d.2.2.1,d.2.2.2.1,())))
def QC:=b6 BN
def xV (d:w0):O (Int×aj×au×H):=
 match QC (((d.1.length):Int),0,d.1,d.2.1,()) with
 |none=>none
 |some (.inl z0)=>
  some (z0.1,z0.2.1,z0.2.2.1,())
 |some (.inr z0)=>
  some ((-1:Int),z0.1,z0.2.1,())
def xI (d:E7):O (E7⊕((Int×aj×au×H)⊕H)):=
 let t0:=(decide (d.2.1<((d.2.2.1.length):Int)))
 bif t0 then
  bif 0<=d.2.1&&d.2.1<(d.2.2.1.length:Int) then
   let t1:=(d.2.2.1.getD (d.2.1.toNat) ([],([],(0,()))))
   match D5 (t1,d.2.2.2.1,()) with
   |none=>none
   |some aS=>
    bif !aS.1 then
     bif 0<=d.1&&d.1<(d.2.2.1.length:Int) then
      some (.inl ((i64.wrap (d.1+1)),(i64.wrap (d.2.1+1)),(List.set d.2.2.1 (d.1.toNat) t1),aS.2.1,()))
     else none
    else
     some (.inl (d.1,(i64.wrap (d.2.1+1)),d.2.2.1,aS.2.1,()))
  else none
 else
  some (.inr (.inl (d.1,d.2.2.1,d.2.2.2.1,())))
def gc:=b6 xI
def BR (d:w0):O (au×aj×H):=
 match xV (d.1,d.2.1,()) with
 |none=>none
 |some aa=>
  bif aa.1=(-1:Int) then
   some (aa.2.2.1,aa.2.1,())
  else
   match gc (aa.1,(i64.wrap (aa.1+1)),aa.2.1,aa.2.2.1,()) with
   |none=>none
   |some (.inl aD)=>
    bif (0<=aD.1&&aD.1<=(aD.2.1.length:Int)&&((aD.2.1.length:Int):Int)<=(aD.2.1.length:Int)) then
     let t2:=(List.take (aD.1.toNat) aD.2.1++List.replicate ((Int.toNat (aD.2.1.length:Int))-(aD.1.toNat)) (([]:N),(([]:N),((0:Int),())))++List.drop ((aD.1.toNat)+((Int.toNat (aD.2.1.length:Int))-(aD.1.toNat))) aD.2.1)
     bif (0:Int)<=aD.1&&aD.1<=(t2.length:Int) then
      some (aD.2.2.1,(List.take (aD.1.toNat) t2),())
     else none
    else none
   |some (.inr aD)=>
    none
def v6 (d:w0):O (aj×H):=
 match va (d.1,()) with
 |none=>none
 |some aa=>
  match BR (aa.1,d.2.1,()) with
  |none=>none
  |some ag=>
   some (ag.2.1,())
def IH (d:ck×Int×aj×H):O (Bool×Int×aj×H):=
 bif d.2.1=0 then
  bif d.2.1=0 then
   bif ((d.2.2.1.length+List.length ([d.1]:aj))*40<=am) then
    let t0:aj:=(d.2.2.1++([d.1]:aj))
    some (true,0,t0,())
   else none
  else none
 else none
def ci (d:E6):O (E6⊕((Int×au×aL×H)⊕sa)):=
 bif d.2.1<d.1 then
  bif 0<=d.2.1&&d.2.1<(d.2.2.1.length:Int) then
   let t0:=(d.2.2.1.getD (d.2.1.toNat) ([],([],())))
   match SZ (t0,d.2.2.2.1,()) with
   |none=>none
   |some ag=>
    bif ag.1 then
     some (.inr (.inl (d.2.1,d.2.2.1,ag.2.1,())))
    else
     some (.inl (d.1,(i64.wrap (d.2.1+1)),d.2.2.1,ag.2.1,()))
  else none
 else
  some (.inr (.inr (d.2.2.1,d.2.2.2.1,())))
def Qt:=b6 ci
def Hn (d:sa):O (Int×au×aL×H):=
 match Qt (((d.1.length):Int),0,d.1,d.2.1,()) with
 |none=>none
 |some (.inl z0)=>
  some (z0.1,z0.2.1,z0.2.2.1,())
 |some (.inr z0)=>
  some ((-1:Int),z0.1,z0.2.1,())
def ce (d:sa):O (Bool×au×aL×H):=
 match Hn (d.1,d.2.1,()) with
 |none=>none
 |some aa=>
  some ((decide (aa.1>=0)),aa.2.1,aa.2.2.1,())
def H5 (cZ:nq->O (aj×bB×Int×H)) (d:Ub):O (ur⊕(mO⊕mO)):=
 bif d.2.2.1 then
  some (.inr (.inl (d.2.2.2.1,d.2.2.2.2.1,d.2.2.2.2.2.1,d.2.2.2.2.2.2.1,d.2.2.2.2.2.2.2.1,d.2.2.2.2.2.2.2.2.1,d.2.2.2.2.2.2.2.2.2.2.1,())))
 else
  some (.inl (d.1,(i64.wrap (d.2.1+1)),d.2.2.2.1,d.2.2.2.2.1,d.2.2.2.2.2.1,d.2.2.2.2.2.2.1,d.2.2.2.2.2.2.2.1,d.2.2.2.2.2.2.2.2.1,d.2.2.2.2.2.2.2.2.2.1,d.2.2.2.2.2.2.2.2.2.2.1,()))
def sD (cZ:nq->O (aj×bB×Int×H)) (d:ur):O (ur⊕(mO⊕mO)):=
 bif d.2.1<d.1 then
  bif 0<=d.2.1&&d.2.1<(d.2.2.2.2.2.2.2.2.1.length:Int) then
   let t0:=(d.2.2.2.2.2.2.2.2.1.getD (d.2.1.toNat) ([],([],(0,()))))
   let t1:=(!decide (d.2.2.2.2.2.2.2.1=0))
   bif !t1 then
    match IH (t0,d.2.2.1,d.2.2.2.2.2.2.2.2.2.1,()) with
    |none=>none
    |some aS=>
     H5 cZ (d.1,d.2.1,(!aS.1),aS.2.1,d.2.2.2.1,d.2.2.2.2.1,d.2.2.2.2.2.1,d.2.2.2.2.2.2.1,d.2.2.2.2.2.2.2.1,d.2.2.2.2.2.2.2.2.1,aS.2.2.1,())
   else
    H5 cZ (d.1,d.2.1,true,d.2.2.1,d.2.2.2.1,d.2.2.2.2.1,d.2.2.2.2.2.1,d.2.2.2.2.2.2.1,d.2.2.2.2.2.2.2.1,d.2.2.2.2.2.2.2.2.1,d.2.2.2.2.2.2.2.2.2.1,())
  else none
 else
  some (.inr (.inr (d.2.2.1,d.2.2.2.1,d.2.2.2.2.1,d.2.2.2.2.2.1,d.2.2.2.2.2.2.1,d.2.2.2.2.2.2.2.1,d.2.2.2.2.2.2.2.2.2.1,())))
def x0 (cZ:nq->O (aj×bB×Int×H)) (d:ur):O (mO⊕mO):=b6 (sD cZ) d
def xZ (cZ:nq->O (aj×bB×Int×H)) (d:aj×Int×Int×aL×au×bB×Int×aj×H):O mO:=
 match v6 (d.1,d.2.2.2.2.1,()) with
 |none=>none
 |some aa=>
  match x0 cZ (((aa.1.length):Int),0,d.2.1,d.2.2.1,d.2.2.2.1,d.2.2.2.2.1,d.2.2.2.2.2.1,d.2.2.2.2.2.2.1,aa.1,d.2.2.2.2.2.2.2.1,()) with
  |none=>none
  |some (.inl aD)=>
   some (aD.1,aD.2.1,aD.2.2.1,aD.2.2.2.1,aD.2.2.2.2.1,aD.2.2.2.2.2.1,aD.2.2.2.2.2.2.1,())
  |some (.inr aD)=>
   some (aD.1,aD.2.1,aD.2.2.1,aD.2.2.2.1,aD.2.2.2.2.1,aD.2.2.2.2.2.1,aD.2.2.2.2.2.2.1,())
def sG (cZ:nq->O (aj×bB×Int×H)) (d:mO):O mO:=
 match ik (d.2.2.2.2.1,d.2.1,()) with
 |none=>none
 |some aa=>
  bif (!(aa.2.1=0)) then
   some (d.1,d.2.1,d.2.2.1,d.2.2.2.1,d.2.2.2.2.1,aa.2.1,d.2.2.2.2.2.2.1,())
  else
   match tX (aa.1,()) with
   |none=>none
   |some ag=>
    bif !ag.1 then
     match cZ (aa.1,d.2.2.1,d.2.2.2.1,d.2.2.2.2.1,d.2.2.2.2.2.1,()) with
     |none=>none
     |some aS=>
      match xg (aS.1,aa.1.2.2.2.2.1,()) with
      |none=>none
      |some bP=>
       xZ cZ (bP.1,d.1,d.2.1,d.2.2.1,d.2.2.2.1,aS.2.1,aS.2.2.1,d.2.2.2.2.2.2.1,())
    else
     xZ cZ (aa.1.1,d.1,d.2.1,d.2.2.1,d.2.2.2.1,d.2.2.2.2.1,d.2.2.2.2.2.1,d.2.2.2.2.2.2.1,())
def yb (cZ:nq->O (aj×bB×Int×H)) (d:KQ):O (KQ⊕((aj×bB×Int×cE×aL×au×H)⊕H)):=
 bif d.2.2.2.1<d.2.2.1 then
  bif 0<=d.2.2.2.1&&d.2.2.2.1<(d.2.1.length:Int) then
   let t0:=(d.2.1.getD (d.2.2.2.1.toNat) ([],([],())))
   match Eu (t0,d.2.2.2.2.2.2.1.2.2.2.2.1,()) with
   |none=>none
   |some ag=>
    bif (d.2.2.2.2.2.2.2.2.1.length+ag.1.length)*32<=am then
     let t2:=i64.wrap (d.2.2.2.1+1)
     some (.inl (d.1,d.2.1,d.2.2.1,t2,d.2.2.2.2.1,d.2.2.2.2.2.1,d.2.2.2.2.2.2.1,d.2.2.2.2.2.2.2.1,(d.2.2.2.2.2.2.2.2.1++ag.1),()))
    else none
  else none
 else
  some (.inr (.inl (d.1,d.2.2.2.2.1,d.2.2.2.2.2.1,d.2.2.2.2.2.2.1,d.2.2.2.2.2.2.2.1,d.2.2.2.2.2.2.2.2.1,())))
def IP (cZ:nq->O (aj×bB×Int×H)) (d:KQ):O ((aj×bB×Int×cE×aL×au×H)⊕H):=b6 (yb cZ) d
def vg (cZ:nq->O (aj×bB×Int×H)) (d:RK):O (RK⊕((aj×bB×Int×H)⊕(bB×Int×aj×H))):=
 bif d.2.2.1<d.2.1 then
  bif 0<=d.2.2.1&&d.2.2.1<(d.2.2.2.2.2.2.2.1.length:Int) then
   let t0:=(d.2.2.2.2.2.2.2.1.getD (d.2.2.1.toNat) ([],([],())))
   match ce (d.2.2.2.2.2.2.1,t0,()) with
   |none=>none
   |some ag=>
    bif !ag.1 then
     some (.inl (d.1,d.2.1,(i64.wrap (d.2.2.1+1)),d.2.2.2.1,d.2.2.2.2.1,d.2.2.2.2.2.1,ag.2.1,d.2.2.2.2.2.2.2.1,d.2.2.2.2.2.2.2.2.1,()))
    else
     bif 0<=d.2.2.1&&d.2.2.1<(d.2.2.2.2.2.1.2.2.1.length:Int) then
      let t2:=(d.2.2.2.2.2.1.2.2.1.getD (d.2.2.1.toNat) 0)
      match qU (t2,ag.2.2.1,ag.2.1,d.2.2.2.1,d.2.2.2.2.1,()) with
      |none=>none
      |some bP=>
       match sG cZ (0,bP.2.2.1,bP.2.2.2.1,bP.2.2.2.2.1,bP.1,bP.2.1,d.2.2.2.2.2.2.2.2.1,()) with
       |none=>none
       |some dz=>
        bif dz.1=0 then
         some (.inl (d.1,d.2.1,(i64.wrap (d.2.2.1+1)),dz.2.2.2.2.1,dz.2.2.2.2.2.1,d.2.2.2.2.2.1,ag.2.1,d.2.2.2.2.2.2.2.1,dz.2.2.2.2.2.2.1,()))
        else
         bif dz.1=1 then
          some (.inr (.inl (d.1,dz.2.2.2.2.1,dz.2.2.2.2.2.1,())))
         else none
     else none
  else none
 else
  some (.inr (.inr (d.2.2.2.1,d.2.2.2.2.1,d.2.2.2.2.2.2.2.2.1,())))
def IQ (cZ:nq->O (aj×bB×Int×H)) (d:RK):O ((aj×bB×Int×H)⊕(bB×Int×aj×H)):=b6 (vg cZ) d
def C5 (cZ:nq->O (aj×bB×Int×H)) (d:nq):O (aj×bB×Int×H):=
 match IP cZ ([],d.2.2.1,((d.2.2.1.length):Int),0,d.2.2.2.1,d.2.2.2.2.1,d.1,d.2.1,[],()) with
 |none=>none
 |some (.inl z0)=>
  match Av (z0.2.2.2.1,z0.2.2.2.2.1,()) with
  |none=>none
  |some ag=>
   match IQ cZ (z0.1,((ag.1.length):Int),0,z0.2.1,z0.2.2.1,z0.2.2.2.1,z0.2.2.2.2.2.1,ag.1,[],()) with
   |none=>none
   |some (.inl z2)=>
    some (z2.1,z2.2.1,z2.2.2.1,())
   |some (.inr z2)=>
    some (z2.2.2.1,z2.1,z2.2.1,())
 |some (.inr z0)=>
  none
def qS:Nat->nq->O (aj×bB×Int×H)
 |0,_=>none
 |n+1,d=>C5 (qS n) d
def I2 (d:nq):O (aj×bB×Int×H):=qS jf d
def IV (d:ck×Int×aj×H):O (Bool×Int×aj×H):=
 bif d.2.1=0 then
  bif d.2.1=0 then
   bif ((d.2.2.1.length+List.length ([d.1]:aj))*40<=am) then
    let t0:aj:=(d.2.2.1++([d.1]:aj))
    some (true,0,t0,())
   else none
  else none
 else none
def jp (d:Ub):O (ur⊕(mO⊕mO)):=
 bif d.2.2.1 then
  some (.inr (.inl (d.2.2.2.1,d.2.2.2.2.1,d.2.2.2.2.2.1,d.2.2.2.2.2.2.1,d.2.2.2.2.2.2.2.1,d.2.2.2.2.2.2.2.2.1,d.2.2.2.2.2.2.2.2.2.2.1,())))
 else
  some (.inl (d.1,(i64.wrap (d.2.1+1)),d.2.2.2.1,d.2.2.2.2.1,d.2.2.2.2.2.1,d.2.2.2.2.2.2.1,d.2.2.2.2.2.2.2.1,d.2.2.2.2.2.2.2.2.1,d.2.2.2.2.2.2.2.2.2.1,d.2.2.2.2.2.2.2.2.2.2.1,()))
def vb (d:ur):O (ur⊕(mO⊕mO)):=
 bif d.2.1<d.1 then
  bif 0<=d.2.1&&d.2.1<(d.2.2.2.2.2.2.2.2.1.length:Int) then
   let t0:=(d.2.2.2.2.2.2.2.2.1.getD (d.2.1.toNat) ([],([],(0,()))))
   let t1:=(!decide (d.2.2.2.2.2.2.2.1=0))
   bif !t1 then
    match IV (t0,d.2.2.1,d.2.2.2.2.2.2.2.2.2.1,()) with
    |none=>none
    |some aS=>
     jp (d.1,d.2.1,(!aS.1),aS.2.1,d.2.2.2.1,d.2.2.2.2.1,d.2.2.2.2.2.1,d.2.2.2.2.2.2.1,d.2.2.2.2.2.2.2.1,d.2.2.2.2.2.2.2.2.1,aS.2.2.1,())
   else
    jp (d.1,d.2.1,true,d.2.2.1,d.2.2.2.1,d.2.2.2.2.1,d.2.2.2.2.2.1,d.2.2.2.2.2.2.1,d.2.2.2.2.2.2.2.1,d.2.2.2.2.2.2.2.2.1,d.2.2.2.2.2.2.2.2.2.1,())
  else none
 else
  some (.inr (.inr (d.2.2.1,d.2.2.2.1,d.2.2.2.2.1,d.2.2.2.2.2.1,d.2.2.2.2.2.2.1,d.2.2.2.2.2.2.2.1,d.2.2.2.2.2.2.2.2.2.1,())))
def x5:=b6 vb
def vh (d:Int×Int×aL×au×bB×Int×H):O mO:=
 match ik (d.2.2.2.2.1,d.2.1,()) with
 |none=>none
 |some aa=>
  bif (!(aa.2.1=0)) then
   some (d.1,d.2.1,d.2.2.1,d.2.2.2.1,d.2.2.2.2.1,aa.2.1,[],())
  else
   match tX (aa.1,()) with
   |none=>none
   |some ag=>
    bif !ag.1 then
     match I2 (aa.1,d.2.2.1,d.2.2.2.1,d.2.2.2.2.1,d.2.2.2.2.2.1,()) with
     |none=>none
     |some aS=>
      match xg (aS.1,aa.1.2.2.2.2.1,()) with
      |none=>none
      |some bP=>
       match v6 (bP.1,d.2.2.2.1,()) with
       |none=>none
       |some dz=>
        match x5 (((dz.1.length):Int),0,d.1,d.2.1,d.2.2.1,d.2.2.2.1,aS.2.1,aS.2.2.1,dz.1,[],()) with
        |none=>none
        |some (.inl z5)=>
         some (z5.1,z5.2.1,z5.2.2.1,z5.2.2.2.1,z5.2.2.2.2.1,z5.2.2.2.2.2.1,z5.2.2.2.2.2.2.1,())
        |some (.inr z5)=>
         some (z5.1,z5.2.1,z5.2.2.1,z5.2.2.2.1,z5.2.2.2.2.1,z5.2.2.2.2.2.1,z5.2.2.2.2.2.2.1,())
    else
     match v6 (aa.1.1,d.2.2.2.1,()) with
     |none=>none
     |some aS=>
      match x5 (((aS.1.length):Int),0,d.1,d.2.1,d.2.2.1,d.2.2.2.1,d.2.2.2.2.1,d.2.2.2.2.2.1,aS.1,[],()) with
      |none=>none
      |some (.inl z3)=>
       some (z3.1,z3.2.1,z3.2.2.1,z3.2.2.2.1,z3.2.2.2.2.1,z3.2.2.2.2.2.1,z3.2.2.2.2.2.2.1,())
      |some (.inr z3)=>
       some (z3.1,z3.2.1,z3.2.2.1,z3.2.2.2.1,z3.2.2.2.2.1,z3.2.2.2.2.2.1,z3.2.2.2.2.2.2.1,())
def ll (d:cQ×aL×H):O (Int×aj×H):=
 match qU (d.1.2.1,([],([],())),([d.2.1]:au),d.1.1,0,()) with
 |none=>none
 |some aa=>
  match vh (0,aa.2.2.1,aa.2.2.2.1,aa.2.2.2.2.1,aa.1,aa.2.1,()) with
  |none=>none
  |some ag=>
   bif ag.1=0 then
    let t2:=(!decide (ag.2.2.2.2.2.1=0))
    bif t2 then
     some (ag.2.2.2.2.2.1,[],())
    else
     some (0,ag.2.2.2.2.2.2.1,())
   else
    bif ag.1=1 then
     some (0,[],())
    else none
def DX (d:aj×aj×Int×H):O ((aj×aj×Int×H)⊕((Bool×H)⊕H)):=
 let t0:=(decide (d.2.2.1<((d.1.length):Int)))
 bif t0 then
  bif 0<=d.2.2.1&&d.2.2.1<(d.1.length:Int) then
   let t1:=(d.1.getD (d.2.2.1.toNat) ([],([],(0,()))))
   bif 0<=d.2.2.1&&d.2.2.1<(d.2.1.length:Int) then
    let t2:=(d.2.1.getD (d.2.2.1.toNat) ([],([],(0,()))))
    let t3:=(!(aB.eqb bx t1 t2))
    bif t3 then
     some (.inr (.inl (false,())))
    else
     some (.inl (d.1,d.2.1,(i64.wrap (d.2.2.1+1)),()))
   else none
  else none
 else
  some (.inr (.inr (())))
def Mz:=b6 DX
def wy (d:Ae):O (Bool×H):=
 let t0:=(!decide ((((d.1.length):Int):Int)=((d.2.1.length):Int)))
 bif t0 then
  some (false,())
 else
  match Mz (d.1,d.2.1,0,()) with
  |none=>none
  |some (.inl aD)=>
   some (aD.1,())
  |some (.inr aD)=>
   some (true,())
def Dk (d:Int×Int×List lS×H):O ((Int×Int×List lS×H)⊕((Bool×H)⊕H)):=
 bif d.2.1<d.1 then
  bif 0<=d.2.1&&d.2.1<(d.2.2.1.length:Int) then
   let t0:=(d.2.2.1.getD (d.2.1.toNat) (0,(0,())))
   bif (!(decide (t0.1<0))) then
    bif (!(decide (t0.1>t0.2.1))) then
     let t1:=decide (t0.2.1>1000000000000000)
     bif t1 then
      some (.inr (.inl (false,())))
     else
      some (.inl (d.1,(i64.wrap (d.2.1+1)),d.2.2.1,()))
    else
     some (.inr (.inl (false,())))
   else
    some (.inr (.inl (false,())))
  else none
 else
  some (.inr (.inr (())))
def Ts:=b6 Dk
def J6 (d:eR×H):O (Bool×H):=
 let t0:Int:=((List.length ([d.1.1,d.1.2.1]:List lS)):Int)
 match Ts (t0,0,([d.1.1,d.1.2.1]:List lS),()) with
 |none=>none
 |some (.inl aD)=>
  some (aD.1,())
 |some (.inr aD)=>
  some (true,())
def DI (d:aj×Int×H):O ((aj×Int×H)⊕((Bool×H)⊕H)):=
 let t0:=(decide (d.2.1<((d.1.length):Int)))
 bif t0 then
  bif (0<=(i64.wrap (d.2.1-1))&&((i64.wrap (d.2.1-1)):Int)<(d.1.length:Int)) then
   let t1:=(d.1.getD (Int.toNat (i64.wrap (d.2.1-1))) ([],([],(0,()))))
   bif 0<=d.2.1&&d.2.1<(d.1.length:Int) then
    let t2:=(d.1.getD (d.2.1.toNat) ([],([],(0,()))))
    bif (!(Op.bytesLess t1.1 t2.1)) then
     some (.inr (.inl (false,())))
    else
     some (.inl (d.1,(i64.wrap (d.2.1+1)),()))
   else none
  else none
 else
  some (.inr (.inr (())))
def L7:=b6 DI
def FD (d:aj×H):O (Bool×H):=
 match L7 (d.1,1,()) with
 |none=>none
 |some (.inl z0)=>
  some (z0.1,())
 |some (.inr z0)=>
  some (true,())
def J5 (d:ck×H):O (Bool×H):=
 let t0:=(decide ((((d.1.1.length):Int):Int)>=1))
 bif t0 then
  let t1:=(decide ((((d.1.1.length):Int):Int)<=65535))
  bif t1 then
   let t2:=(decide ((((d.1.2.1.length):Int):Int)<=64))
   bif t2 then
    bif d.1.2.2.1>=0 then
     let t3:=decide (d.1.2.2.1<=1000000000)
     some (t3,())
    else
     some (false,())
   else
    some (false,())
  else
   some (false,())
 else
  some (false,())
def Ki (d:ck×aL×H):O (Bool×aL×H):=
 match J5 (d.1,()) with
 |none=>none
 |some aa=>
  bif (!(!aa.1)) then
   match pz (d.2.1,d.1.1,()) with
   |none=>none
   |some ag=>
    some ((!ag.1),d.2.1,())
  else
   some (true,d.2.1,())
def se (d:aj×Int×Int×aL×H):O ((aj×Int×Int×aL×H)⊕((Int×aL×H)⊕(aL×H))):=
 bif d.2.2.1<d.2.1 then
  bif 0<=d.2.2.1&&d.2.2.1<(d.1.length:Int) then
   let t0:=(d.1.getD (d.2.2.1.toNat) ([],([],(0,()))))
   match Ki (t0,d.2.2.2.1,()) with
   |none=>none
   |some ag=>
    bif ag.1 then
     some (.inr (.inl (d.2.2.1,ag.2.1,())))
    else
     some (.inl (d.1,d.2.1,(i64.wrap (d.2.2.1+1)),ag.2.1,()))
  else none
 else
  some (.inr (.inr (d.2.2.2.1,())))
def Hw:=b6 se
def Hl (d:wX):O (Int×aL×H):=
 match Hw (d.1,((d.1.length):Int),0,d.2.1,()) with
 |none=>none
 |some (.inl z0)=>
  some (z0.1,z0.2.1,())
 |some (.inr z0)=>
  some ((-1:Int),z0.1,())
def Hk (d:wX):O (Bool×aL×H):=
 match Hl (d.1,d.2.1,()) with
 |none=>none
 |some aa=>
  some ((decide (aa.1>=0)),aa.2.1,())
def Mo (d:bH×H):O (au×H):=
 some ([],())
def Mj (d:bH×H):O (au×H):=
 some ([],())
def Lw (d:bH×H):O (au×H):=
 some ([],())
def Ly (d:bH×H):O (au×H):=
 match lX (d.1.2.2.2.2.1,()) with
 |none=>none
 |some aa=>
  some (([aa.1]:au),())
def TI (d:bH×H):O (au×H):=
 match lX (d.1.2.2.2.2.1,()) with
 |none=>none
 |some aa=>
  some (([aa.1]:au),())
def TN (d:bH×H):O (au×H):=
 some (([d.1.2.2.2.1]:au),())
def rQ (d:bH×H):O (au×H):=
 bif d.1.1=1 then
  match Mo (d.1,()) with
  |none=>none
  |some aa=>
   some (aa.1,())
 else
  bif d.1.1=2 then
   match Mj (d.1,()) with
   |none=>none
   |some aa=>
    some (aa.1,())
  else
   bif d.1.1=3 then
    match Lw (d.1,()) with
    |none=>none
    |some aa=>
     some (aa.1,())
   else
    bif d.1.1=4 then
     match Ly (d.1,()) with
     |none=>none
     |some aa=>
      some (aa.1,())
    else
     bif d.1.1=5 then
      match TI (d.1,()) with
      |none=>none
      |some aa=>
       some (aa.1,())
     else
      bif d.1.1=6 then
       match TN (d.1,()) with
       |none=>none
       |some aa=>
        some (aa.1,())
      else
       some ([],())
def pk (d:uw):O (Bool×H):=
 match la (d.2.1,()) with
 |none=>none
 |some aa=>
  bif !aa.1 then
   match pz (d.1,d.2.1.1,()) with
   |none=>none
   |some ag=>
    bif ag.1 then
     match pT (d.1.2.1,d.2.1.2.1,()) with
     |none=>none
     |some aS=>
      some ((decide (aS.1>=0)),())
    else
     some (false,())
  else
   some (true,())
def D8 (d:uw):O (Bool×aL×H):=
 match pk (d.2.1,d.1,()) with
 |none=>none
 |some aa=>
  some ((!aa.1),d.2.1,())
def B0 (d:au×Int×Int×aL×H):O ((au×Int×Int×aL×H)⊕((Int×aL×H)⊕(aL×H))):=
 bif d.2.2.1<d.2.1 then
  bif 0<=d.2.2.1&&d.2.2.1<(d.1.length:Int) then
   let t0:=(d.1.getD (d.2.2.1.toNat) ([],([],())))
   match D8 (t0,d.2.2.2.1,()) with
   |none=>none
   |some ag=>
    bif ag.1 then
     some (.inr (.inl (d.2.2.1,ag.2.1,())))
    else
     some (.inl (d.1,d.2.1,(i64.wrap (d.2.2.1+1)),ag.2.1,()))
  else none
 else
  some (.inr (.inr (d.2.2.2.1,())))
def Qu:=b6 B0
def QE (d:sa):O (Int×aL×H):=
 match Qu (d.1,((d.1.length):Int),0,d.2.1,()) with
 |none=>none
 |some (.inl z0)=>
  some (z0.1,z0.2.1,())
 |some (.inr z0)=>
  some ((-1:Int),z0.1,())
def Hu (d:sa):O (Bool×aL×H):=
 match QE (d.1,d.2.1,()) with
 |none=>none
 |some aa=>
  some ((decide (aa.1>=0)),aa.2.1,())
def B1 (d:E6):O (E6⊕((Int×au×aL×H)⊕sa)):=
 bif d.2.1<d.1 then
  bif 0<=d.2.1&&d.2.1<(d.2.2.1.length:Int) then
   let t0:=(d.2.2.1.getD (d.2.1.toNat) ([],([],())))
   match D8 (t0,d.2.2.2.1,()) with
   |none=>none
   |some ag=>
    bif ag.1 then
     some (.inr (.inl (d.2.1,d.2.2.1,ag.2.1,())))
    else
     some (.inl (d.1,(i64.wrap (d.2.1+1)),d.2.2.1,ag.2.1,()))
  else none
 else
  some (.inr (.inr (d.2.2.1,d.2.2.2.1,())))
def Qv:=b6 B1
def QF (d:sa):O (Int×au×aL×H):=
 match Qv (((d.1.length):Int),0,d.1,d.2.1,()) with
 |none=>none
 |some (.inl z0)=>
  some (z0.1,z0.2.1,z0.2.2.1,())
 |some (.inr z0)=>
  some ((-1:Int),z0.1,z0.2.1,())
def Hv (d:sa):O (Bool×au×aL×H):=
 match QF (d.1,d.2.1,()) with
 |none=>none
 |some aa=>
  some ((decide (aa.1>=0)),aa.2.1,aa.2.2.1,())
def Kj (d:bH×aL×H):O (Bool×aL×H):=
 match oK (d.1,()) with
 |none=>none
 |some aa=>
  bif (!(!aa.1)) then
   match rQ (d.1,()) with
   |none=>none
   |some ag=>
    match Hu (ag.1,d.2.1,()) with
    |none=>none
    |some aS=>
     bif !aS.1 then
      match qf (d.1,()) with
      |none=>none
      |some bP=>
       match Hv (bP.1,aS.2.1,()) with
       |none=>none
       |some dz=>
        some (dz.1,dz.2.2.1,())
     else
      some (true,aS.2.1,())
  else
   some (true,d.2.1,())
def BL (d:cD×Int×Int×aL×H):O ((cD×Int×Int×aL×H)⊕((Int×aL×H)⊕(aL×H))):=
 bif d.2.2.1<d.2.1 then
  bif 0<=d.2.2.1&&d.2.2.1<(d.1.length:Int) then
   let t0:=(d.1.getD (d.2.2.1.toNat) (0,([],([],(([],([],())),([],([],(0,()))))))))
   match Kj (t0,d.2.2.2.1,()) with
   |none=>none
   |some ag=>
    bif ag.1 then
     some (.inr (.inl (d.2.2.1,ag.2.1,())))
    else
     some (.inl (d.1,d.2.1,(i64.wrap (d.2.2.1+1)),ag.2.1,()))
  else none
 else
  some (.inr (.inr (d.2.2.2.1,())))
def QI:=b6 BL
def Sa (d:cD×aL×H):O (Int×aL×H):=
 match QI (d.1,((d.1.length):Int),0,d.2.1,()) with
 |none=>none
 |some (.inl z0)=>
  some (z0.1,z0.2.1,())
 |some (.inr z0)=>
  some ((-1:Int),z0.1,())
def Ht (d:cD×aL×H):O (Bool×aL×H):=
 match Sa (d.1,d.2.1,()) with
 |none=>none
 |some aa=>
  some ((decide (aa.1>=0)),aa.2.1,())
def vX (d:Uf):O (Uf⊕((Bool×H)⊕z8)):=
 bif d.2.2.2.1<d.2.2.1 then
  bif 0<=d.2.2.2.1&&d.2.2.2.1<(d.2.1.length:Int) then
   let t0:=(d.2.1.getD (d.2.2.2.1.toNat) [])
   let t1:=(Op.bytesLess t0 d.1||decide ((t0:N)=d.1))
   bif !t1 then
    let t2:=(!decide ((d.2.2.2.2.2.1.2.1:N)=[]))
    bif t2 then
     bif (!(Op.bytesLess t0 d.2.2.2.2.2.1.2.1)) then
      some (.inr (.inl (false,())))
     else
      let t3:=i64.wrap (d.2.2.2.1+1)
      some (.inl (t0,d.2.1,d.2.2.1,t3,d.2.2.2.2.1,d.2.2.2.2.2.1,()))
    else
     let t3:=i64.wrap (d.2.2.2.1+1)
     some (.inl (t0,d.2.1,d.2.2.1,t3,d.2.2.2.2.1,d.2.2.2.2.2.1,()))
   else
    some (.inr (.inl (false,())))
  else none
 else
  some (.inr (.inr (d.2.2.2.2.1,d.2.2.2.2.2.1,())))
def Mr:=b6 vX
def DR (d:UL):O (UL⊕((Bool×H)⊕z8)):=
 bif d.2.2.1<d.2.1 then
  bif 0<=d.2.2.1&&d.2.2.1<(d.1.length:Int) then
   let t0:=(d.1.getD (d.2.2.1.toNat) 0)
   bif (!(decide (t0<0))) then
    bif (!(decide (t0>=4096))) then
     bif 0<=d.2.2.1&&d.2.2.1<(d.2.2.2.1.2.2.2.1.length:Int) then
      let t1:=(d.2.2.2.1.2.2.2.1.getD (d.2.2.1.toNat) ((0,(0,())),((0,(0,())),())))
      match J6 (t1,()) with
      |none=>none
      |some aS=>
       bif !aS.1 then
        some (.inr (.inl (false,())))
       else
        some (.inl (d.1,d.2.1,(i64.wrap (d.2.2.1+1)),d.2.2.2.1,d.2.2.2.2.1,()))
     else none
    else
     some (.inr (.inl (false,())))
   else
    some (.inr (.inl (false,())))
  else none
 else
  some (.inr (.inr (d.2.2.2.1,d.2.2.2.2.1,())))
def Ms:=b6 DR
def J4 (d:Bool×cE×aL×H):O (Bool×H):=
 bif d.1 then
  some (false,())
 else
  match Mr (d.2.2.1.1,d.2.1.2.1,((d.2.1.2.1.length):Int),0,d.2.1,d.2.2.1,()) with
  |none=>none
  |some (.inl z0)=>
   some (z0.1,())
  |some (.inr z0)=>
   match Ms (z0.1.2.2.1,((z0.1.2.2.1.length):Int),0,z0.1,z0.2.1,()) with
   |none=>none
   |some (.inl aD)=>
    some (aD.1,())
   |some (.inr aD)=>
    match Ht (aD.1.2.2.2.2.1,aD.2.1,()) with
    |none=>none
    |some aS=>
     some ((!aS.1),())
def tH (d:z8):O (Bool×H):=
 let t0:=(decide ((((d.1.2.2.1.length):Int):Int)=0))
 bif t0 then
  let t1:=(i64.wrap (((d.1.2.1.length):Int)+((d.1.2.2.2.1.length):Int)))
  let t2:=(i64.wrap (t1+((d.1.2.2.2.2.1.length):Int)))
  bif t2=0 then
   match FD (d.1.1,()) with
   |none=>none
   |some bP=>
    bif bP.1 then
     match Hk (d.1.1,d.2.1,()) with
     |none=>none
     |some dz=>
      some ((!dz.1),())
    else
     some (false,())
  else
   some (false,())
 else
  let t1:=(decide ((((d.1.1.length):Int):Int)>0))
  bif !t1 then
   let t2:=(!decide ((((d.1.2.2.2.1.length):Int):Int)=((d.1.2.2.1.length):Int)))
   bif !t2 then
    let t3:=(i64.wrap (((d.1.2.2.1.length):Int)-1))
    let t4:=(!decide ((((d.1.2.1.length):Int):Int)=t3))
    J4 (t4,d.1,d.2.1,())
   else
    J4 (true,d.1,d.2.1,())
  else
   J4 (true,d.1,d.2.1,())
def tG (d:oX):O (Int×Int×Int×Int×H):=
 let t0:Int:=(if ((i64.wrap (d.2.2.1+d.1)):Int)<0 then 0 else (i64.wrap (d.2.2.1+d.1)))
 let t1:Int:=(if (1000000000000000:Int)<t0 then 1000000000000000 else t0)
 let t2:Int:=(if (1000000000000000:Int)<(i64.wrap (d.2.2.2.1+d.2.1)) then 1000000000000000 else (i64.wrap (d.2.2.2.1+d.2.1)))
 some (t1,t2,d.2.2.2.2.1,d.2.2.2.2.2.1,())
def tl (d:oX):O (Int×Int×Int×Int×H):=
 let t0:Int:=(if ((i64.wrap (d.2.2.2.2.1+d.1)):Int)<0 then 0 else (i64.wrap (d.2.2.2.2.1+d.1)))
 let t1:Int:=(if (1000000000000000:Int)<t0 then 1000000000000000 else t0)
 let t2:=i64.wrap (d.2.2.2.2.2.1+d.2.1)
 let t3:Int:=(if (1000000000000000:Int)<t2 then 1000000000000000 else t2)
 some (d.2.2.1,d.2.2.2.1,t1,t3,())
def Sp (d:iN):O (Int×H):=some ((fun a c=>Lib.indexByte a c.toNat.toUInt8) d.1 d.2.1,())
def VY (d:iN):O (Int×H):=
 match Sp (d.1,d.2.1,()) with
 |none=>none
 |some aa=>
  some (aa.1,())
def ahS (d:Int×H):O (Bool×H):=
 bif (0:Int)<=d.1 then
  bif d.1<55296 then
   some (true,())
  else
   bif (57343:Int)<d.1 then
    bif d.1<=1114111 then
     some (true,())
    else
     some (false,())
   else
    some (false,())
 else
  bif (57343:Int)<d.1 then
   bif d.1<=1114111 then
    some (true,())
   else
    some (false,())
  else
   some (false,())
def aie (d:iN):O (iN⊕((Int×H)⊕H)):=
 bif d.2.1<(d.1.length:Int) then
  let t0:=(decide (((oS d.1 d.2.1).1:Int)=65533))
  bif t0 then
   some (.inr (.inl (d.2.1,())))
  else
   some (.inl (d.1,(d.2.1+(oS d.1 d.2.1).2),()))
 else
  some (.inr (.inr (())))
def aii:=b6 aie
def aih (d:K5):O (Int×H):=
 bif d.2.2.1 then
  match VY (d.1,(IntKind.u8.wrap d.2.1),()) with
  |none=>none
  |some aa=>
   some (aa.1,())
 else
  bif d.2.1=65533 then
   match aii (d.1,0,()) with
   |none=>none
   |some (.inl z0)=>
    some (z0.1,())
   |some (.inr z0)=>
    some ((-1:Int),())
  else
   match ahS (d.2.1,()) with
   |none=>none
   |some aa=>
    bif !aa.1 then
     some ((-1:Int),())
    else none
def Jl (d:iN):O (Int×H):=
 bif (0:Int)<=d.2.1 then
  aih (d.1,d.2.1,(decide (d.2.1<128)),())
 else
  aih (d.1,d.2.1,false,())
def ahy (d:Int×H):O (Bool×H):=
 some ((decide (d.1>8)),())
def ahW (d:ck):O (ck⊕((Int×H)⊕H)):=
 bif d.2.2.1<(d.2.1.length:Int) then
  match Jl (d.1,(oS d.2.1 d.2.2.1).1,()) with
  |none=>none
  |some aa=>
   bif aa.1>=0 then
    some (.inr (.inl (d.2.2.1,())))
   else
    some (.inl (d.1,d.2.1,(d.2.2.1+(oS d.2.1 d.2.2.1).2),()))
 else
  some (.inr (.inr (())))
def ahY:=b6 ahW
def Td (d:aL):O (Int×H):=
 let t0:=decide ((d.2.1:N)=[])
 bif t0 then
  some ((-1:Int),())
 else
  let t1:=(decide ((((d.2.1.length):Int):Int)=1))
  bif t1 then
   bif (0:Int)<(d.2.1.length:Int) then
    let t2:=(IntKind.i32.wrap ((d.2.1.getD 0 0).toNat:Int))
    bif t2>=128 then
     match Jl (d.1,65533,()) with
     |none=>none
     |some bP=>
      some (bP.1,())
    else
     match Jl (d.1,t2,()) with
     |none=>none
     |some bP=>
      some (bP.1,())
   else none
  else
   match ahy (((d.1.length):Int),()) with
   |none=>none
   |some aS=>
    bif aS.1 then
     none
    else
     match ahY (d.2.1,d.1,0,()) with
     |none=>none
     |some (.inl z3)=>
      some (z3.1,())
     |some (.inr z3)=>
      some ((-1:Int),())
def WH (d:aL):O (Int×H):=Dq (Td d) (A8 d)
def XN (d:Ab):O (N×Int×N×N×Int×Int×N×H):=
 match WH (d.1,([1,2,3]:N),()) with
 |none=>none
 |some aa=>
  bif aa.1<0 then
   some ([],0,d.1,d.2.1,d.2.2.1,d.2.2.2.1,d.2.2.2.2.1,())
  else
   bif (0:Int)<=aa.1&&aa.1<=(d.1.length:Int) then
    let t1:=(List.drop 0 (List.take (aa.1.toNat) d.1))
    bif 0<=aa.1&&aa.1<(d.1.length:Int) then
     let t2:Int:=((d.1.getD (aa.1.toNat) 0).toNat:Int)
     bif (0<=(i64.wrap (aa.1+1))&&((i64.wrap (aa.1+1)):Int)<=(d.1.length:Int)&&((d.1.length:Int):Int)<=(d.1.length:Int)) then
      let t3:=(List.drop (Int.toNat (i64.wrap (aa.1+1))) (List.take (Int.toNat (d.1.length:Int)) d.1))
      some (t1,t2,t3,d.2.1,d.2.2.1,d.2.2.2.1,d.2.2.2.2.1,())
     else none
    else none
   else none
def VW (d:Uj):O Ab:=
 bif d.2.1 then
  bif (0:Int)<(d.2.2.1.length:Int) then
   let t0:=i64.wrap ((d.2.2.1.getD 0 0).toNat:Int)
   let t1:=(i64.wrap (t0*2^(min (Int.toNat 8) i64.bits)))
   bif (1:Int)<(d.2.2.1.length:Int) then
    let t2:Int:=((d.2.2.1.getD (Int.toNat 1) 0).toNat:Int)
    let t3:=(i64.wrap ((BitVec.ofInt i64.bits t1 ||| BitVec.ofInt i64.bits (i64.wrap t2)).toNat:Int))
    some (d.2.2.1,d.2.2.2.1,d.2.2.2.2.1,t3,d.2.2.2.2.2.2.1,())
   else none
  else none
 else
  bif d.1=3 then
   some (d.2.2.1,d.2.2.2.1,d.2.2.2.2.1,d.2.2.2.2.2.1,d.2.2.1,())
  else
   some (d.2.2.1,d.2.2.2.1,d.2.2.2.2.1,d.2.2.2.2.2.1,d.2.2.2.2.2.2.1,())
def VV (d:Uj):O Ab:=
 bif d.2.1 then
  some (d.2.2.1,d.2.2.2.1,4,d.2.2.2.2.2.1,d.2.2.2.2.2.2.1,())
 else
  bif d.1=2 then
   let t0:=(decide ((((d.2.2.1.length):Int):Int)=2))
   VW (d.1,t0,d.2.2.1,d.2.2.2.1,d.2.2.2.2.1,d.2.2.2.2.2.1,d.2.2.2.2.2.2.1,())
  else
   VW (d.1,false,d.2.2.1,d.2.2.2.1,d.2.2.2.2.1,d.2.2.2.2.2.1,d.2.2.2.2.2.2.1,())
def Xv (d:Ab):O Ab:=
 match Jk (d.1,([6]:N),()) with
 |none=>none
 |some aa=>
  match XN (aa.1,d.2.1,d.2.2.1,d.2.2.2.1,d.2.2.2.2.1,()) with
  |none=>none
  |some ag=>
   bif aa.2.1 then
    VV (ag.2.1,(decide (ag.2.1=1)),ag.2.2.1,ag.1,(i64.wrap ag.2.1),ag.2.2.2.2.2.1,ag.2.2.2.2.2.2.1,())
   else
    VV (ag.2.1,false,ag.2.2.1,ag.1,(i64.wrap ag.2.1),ag.2.2.2.2.2.1,ag.2.2.2.2.2.2.1,())
def ahc (d:N×N×Int×Bool×H):O (Int×H):=
 bif d.2.2.2.1 then
  some (0,())
 else
  bif d.2.2.1=1 then
   bif (0:Int)<(d.2.1.length:Int) then
    match Sp (d.1,((d.2.1.getD 0 0).toNat:Int),()) with
    |none=>none
    |some aa=>
     some (aa.1,())
   else none
  else
   let t0:=(decide (d.2.2.1>=((d.1.length):Int)))
   bif t0 then
    some ((-1:Int),())
   else none
def ahl (d:aL):O (Int×H):=
 let t0:=(decide ((((d.2.1.length):Int):Int)=0))
 bif !t0 then
  ahc (d.1,d.2.1,((d.2.1.length):Int),(decide ((d.2.1:N)=d.1)),())
 else
  ahc (d.1,d.2.1,((d.2.1.length):Int),true,())
def ahu (d:aL):O Aa:=
 match ahl (d.1,d.2.1,()) with
 |none=>none
 |some aa=>
  bif aa.1>=0 then
   bif (0:Int)<=aa.1&&aa.1<=(d.1.length:Int) then
    let t1:=(List.drop 0 (List.take (aa.1.toNat) d.1))
    let t2:=(i64.wrap (aa.1+((d.2.1.length):Int)))
    bif (0<=t2&&t2<=(d.1.length:Int)&&((d.1.length:Int):Int)<=(d.1.length:Int)) then
     let t3:=(List.drop (t2.toNat) (List.take (Int.toNat (d.1.length:Int)) d.1))
     some (t1,t3,true,())
    else none
   else none
  else
   some (d.1,[],false,())
def aa5 (d:aL):O Aa:=
 match ahu (d.1,d.2.1,()) with
 |none=>none
 |some aa=>
  some (aa.1,aa.2.1,aa.2.2.1,())
def ZQ (d:Int×H):O (Bool×H):=
 bif (!(decide (d.1<33))) then
  bif (!(decide (d.1>126))) then
   some ((decide (d.1=47)),())
  else
   some (true,())
 else
  some (true,())
def aij (d:Bool×N×Int×H):O ((Bool×N×Int×H)⊕((Int×H)⊕H)):=
 bif d.2.2.1<(d.2.1.length:Int) then
  match ZQ ((oS d.2.1 d.2.2.1).1,()) with
  |none=>none
  |some aa=>
   bif (aa.1==d.1) then
    some (.inr (.inl (d.2.2.1,())))
   else
    some (.inl (d.1,d.2.1,(d.2.2.1+(oS d.2.1 d.2.2.1).2),()))
 else
  some (.inr (.inr (())))
def y6:=b6 aij
def V2 (d:w2):O (Int×H):=
 match y6 (d.2.1,d.1,0,()) with
 |none=>none
 |some (.inl z0)=>
  some (z0.1,())
 |some (.inr z0)=>
  some ((-1:Int),())
def VZ (d:N×H):O (Int×H):=
 match V2 (d.1,true,()) with
 |none=>none
 |some aa=>
  some (aa.1,())
def NL (d:N×H):O (Bool×H):=
 let t0:=decide ((d.1:N)=[])
 bif !t0 then
  let t1:=(decide ((((d.1.length):Int):Int)>12))
  bif !t1 then
   let t2:=decide ((d.1:N)=([46]:N))
   bif !t2 then
    let t3:=decide ((d.1:N)=([46,46]:N))
    bif t3 then
     some (false,())
    else
     match VZ (d.1,()) with
     |none=>none
     |some dz=>
      some ((decide (dz.1<0)),())
   else
    some (false,())
  else
   some (false,())
 else
  some (false,())
def ZM (d:N×H):O ((N×H)⊕((Bool×H)⊕H)):=
 let t0:=(!decide ((d.1:N)=[]))
 bif t0 then
  match aa5 (d.1,([47]:N),()) with
  |none=>none
  |some ag=>
   bif (!(!ag.2.2.1)) then
    match NL (ag.1,()) with
    |none=>none
    |some aS=>
     bif !aS.1 then
      some (.inr (.inl (false,())))
     else
      some (.inl (ag.2.1,()))
   else
    some (.inr (.inl (false,())))
 else
  some (.inr (.inr (())))
def ZO:=b6 ZM
def N7 (d:N×H):O (Bool×H):=
 match ZO (d.1,()) with
 |none=>none
 |some (.inl z0)=>
  some (z0.1,())
 |some (.inr z0)=>
  some (true,())
def ahk (d:K5):O (iN⊕((N×H)⊕H)):=
 bif d.2.2.1 then
  let t0:=(i64.wrap (((d.1.length):Int)-1))
  bif (0:Int)<=t0&&t0<=(d.1.length:Int) then
   let t1:=(List.drop 0 (List.take (t0.toNat) d.1))
   some (.inl (t1,d.2.1,()))
  else none
 else
  some (.inr (.inl (d.1,())))
def ahG (d:iN):O (iN⊕((N×H)⊕H)):=
 let t0:=(decide ((((d.1.length):Int):Int)>0))
 bif t0 then
  let t1:=(i64.wrap (((d.1.length):Int)-1))
  bif 0<=t1&&t1<(d.1.length:Int) then
   let t2:Int:=((d.1.getD (t1.toNat) 0).toNat:Int)
   ahk (d.1,d.2.1,(decide (t2=d.2.1)),())
  else none
 else
  ahk (d.1,d.2.1,false,())
def ul:=b6 ahG
def ahZ (d:iN):O (N×H):=
 match ul (d.1,d.2.1,()) with
 |none=>none
 |some (.inl z0)=>
  some (z0.1,())
 |some (.inr z0)=>
  none
def ahp (d:K5):O (iN⊕((N×H)⊕H)):=
 bif d.2.2.1 then
  bif ((1:Int)<=(d.1.length:Int)&&((d.1.length:Int):Int)<=(d.1.length:Int)) then
   let t0:=(List.drop (Int.toNat 1) (List.take (Int.toNat (d.1.length:Int)) d.1))
   some (.inl (t0,d.2.1,()))
  else none
 else
  some (.inr (.inl (d.1,())))
def ahO (d:iN):O (iN⊕((N×H)⊕H)):=
 let t0:=(decide ((((d.1.length):Int):Int)>0))
 bif t0 then
  bif (0:Int)<(d.1.length:Int) then
   let t1:=(decide ((((d.1.getD 0 0).toNat:Int):Int)=d.2.1))
   ahp (d.1,d.2.1,t1,())
  else none
 else
  ahp (d.1,d.2.1,false,())
def ahQ:=b6 ahO
def aia (d:iN):O (N×H):=
 match ahQ (d.1,d.2.1,()) with
 |none=>none
 |some (.inl z0)=>
  some (z0.1,())
 |some (.inr z0)=>
  none
def V1 (d:Aa):O (N×H):=
 bif d.2.2.1 then
  bif (0:Int)<(d.2.1.length:Int) then
   match ahZ (d.1,((d.2.1.getD 0 0).toNat:Int),()) with
   |none=>none
   |some aa=>
    bif (0:Int)<(d.2.1.length:Int) then
     match aia (aa.1,((d.2.1.getD 0 0).toNat:Int),()) with
     |none=>none
     |some ag=>
      some (ag.1,())
    else none
  else none
 else none
def V0 (d:Aa):O (N×H):=
 bif d.2.2.1 then
  some (d.1,())
 else
  let t0:=(decide ((((d.2.1.length):Int):Int)=1))
  bif t0 then
   bif (0:Int)<(d.2.1.length:Int) then
    let t1:=(decide ((((d.2.1.getD 0 0).toNat:Int):Int)<128))
    V1 (d.1,d.2.1,t1,())
   else none
  else
   V1 (d.1,d.2.1,false,())
def abs (d:aL):O (N×H):=
 let t0:=decide ((d.1:N)=[])
 bif !t0 then
  let t1:=decide ((d.2.1:N)=[])
  V0 (d.1,d.2.1,t1,())
 else
  V0 (d.1,d.2.1,true,())
def aaB (d:aL):O (N×H):=Dq (abs d) (AZ d)
def JQ (d:w2):O (Bool×H):=
 bif d.2.1 then
  some (false,())
 else
  bif (9:Int)<=(d.1.length:Int) then
   let t0:=(List.drop (Int.toNat 1) (List.take (Int.toNat 9) d.1))
   match aaB (t0,([48,49,50,51,52,53,54,55,56,57,97,98,99,100,101,102]:N),()) with
   |none=>none
   |some ag=>
    let t2:=decide ((ag.1:N)=[])
    some (t2,())
  else none
def aaP (d:N×H):O (Bool×H):=
 let t0:=(!decide ((((d.1.length):Int):Int)=10))
 bif !t0 then
  bif (0:Int)<(d.1.length:Int) then
   let t1:=(!decide ((((d.1.getD 0 0).toNat:Int):Int)=5))
   bif !t1 then
    bif (1:Int)<(d.1.length:Int) then
     let t2:Int:=((d.1.getD (Int.toNat 1) 0).toNat:Int)
     bif (!(decide (t2>55))) then
      bif (9:Int)<(d.1.length:Int) then
       let t3:Int:=((d.1.getD (Int.toNat 9) 0).toNat:Int)
       JQ (d.1,(!decide (t3=47)),())
      else none
     else
      JQ (d.1,true,())
    else none
   else
    JQ (d.1,true,())
  else none
 else
  JQ (d.1,true,())
def vL (d:Bool×j2×H):O (H⊕iN):=
 bif d.1 then
  bif List.length ([6]:N)+d.2.1.1.length<=am then
   bif (List.length (([6]:N)++d.2.1.1)+List.length ([1]:N)<=am) then
    let t0:N:=((([6]:N)++d.2.1.1)++([1]:N))
    some (.inr (t0,0,()))
   else none
  else none
 else
  some (.inl (()))
def ta (d:Fb):O (H⊕iN):=
 bif d.1 then
  bif d.2.1.1.length+List.length ([3]:N)<=am then
   bif (List.length (d.2.1.1++([3]:N))+d.2.1.2.2.2.1.length<=am) then
    let t0:N:=((d.2.1.1++([3]:N))++d.2.1.2.2.2.1)
    some (.inr (t0,0,()))
   else none
  else none
 else
  bif d.2.1.2.1=4 then
   let t0:=(aB.eqb hF d.2.1 (d.2.2.1,(d.2.2.2.1,(d.2.2.2.2.1,(d.2.2.2.2.2.1,())))))
   match vL (t0,d.2.1,()) with
   |none=>none
   |some (.inl aD)=>
    some (.inl (()))
   |some (.inr aD)=>
    some (.inr (aD.1,aD.2.1,()))
  else
   match vL (false,d.2.1,()) with
   |none=>none
   |some (.inl z0)=>
    some (.inl (()))
   |some (.inr z0)=>
    some (.inr (z0.1,z0.2.1,()))
def qX (d:Fb):O (H⊕iN):=
 bif d.1 then
  let t0:Int:=(Int.fdiv d.2.1.2.2.1 (2^(min (Int.toNat 8) i64.bits)))
  let t1:N:=(uf ([2,(IntKind.u8.wrap t0),(IntKind.u8.wrap d.2.1.2.2.1)]:ct))
  bif d.2.1.1.length+t1.length<=am then
   some (.inr ((d.2.1.1++t1),0,()))
  else none
 else
  bif d.2.1.2.1=3 then
   let t0:=decide (d.2.1.2.2.1=0)
   bif t0 then
    match NL (d.2.1.2.2.2.1,()) with
    |none=>none
    |some ag=>
     match ta (ag.1,d.2.1,d.2.2.1,d.2.2.2.1,d.2.2.2.2.1,d.2.2.2.2.2.1,()) with
     |none=>none
     |some (.inl z2)=>
      some (.inl (()))
     |some (.inr z2)=>
      some (.inr (z2.1,z2.2.1,()))
   else
    match ta (false,d.2.1,d.2.2.1,d.2.2.2.1,d.2.2.2.2.1,d.2.2.2.2.2.1,()) with
    |none=>none
    |some (.inl aD)=>
     some (.inl (()))
    |some (.inr aD)=>
     some (.inr (aD.1,aD.2.1,()))
  else
   match ta (false,d.2.1,d.2.2.1,d.2.2.2.1,d.2.2.2.2.1,d.2.2.2.2.2.1,()) with
   |none=>none
   |some (.inl z0)=>
    some (.inl (()))
   |some (.inr z0)=>
    some (.inr (z0.1,z0.2.1,()))
def vK (d:Fb):O (H⊕iN):=
 bif d.1 then
  bif d.2.1.1.length+List.length ([1]:N)<=am then
   some (.inr ((d.2.1.1++([1]:N)),0,()))
  else none
 else
  bif d.2.1.2.1=2 then
   let t0:=decide ((d.2.1.2.2.2.1:N)=[])
   bif t0 then
    let t1:=decide (d.2.1.2.2.1>=0)
    bif t1 then
     let t2:=decide (d.2.1.2.2.1<=60000)
     match qX (t2,d.2.1,d.2.2.1,d.2.2.2.1,d.2.2.2.2.1,d.2.2.2.2.2.1,()) with
     |none=>none
     |some (.inl z3)=>
      some (.inl (()))
     |some (.inr z3)=>
      some (.inr (z3.1,z3.2.1,()))
    else
     match qX (false,d.2.1,d.2.2.1,d.2.2.2.1,d.2.2.2.2.1,d.2.2.2.2.2.1,()) with
     |none=>none
     |some (.inl z2)=>
      some (.inl (()))
     |some (.inr z2)=>
      some (.inr (z2.1,z2.2.1,()))
   else
    match qX (false,d.2.1,d.2.2.1,d.2.2.2.1,d.2.2.2.2.1,d.2.2.2.2.2.1,()) with
    |none=>none
    |some (.inl aD)=>
     some (.inl (()))
    |some (.inr aD)=>
     some (.inr (aD.1,aD.2.1,()))
  else
   match qX (false,d.2.1,d.2.2.1,d.2.2.2.1,d.2.2.2.2.1,d.2.2.2.2.2.1,()) with
   |none=>none
   |some (.inl z0)=>
    some (.inl (()))
   |some (.inr z0)=>
    some (.inr (z0.1,z0.2.1,()))
def tb (d:Fb):O (H⊕iN):=
 bif d.1 then
  bif d.2.1.2.1=1 then
   let t0:=(aB.eqb hF d.2.1 (d.2.2.1,(d.2.2.2.1,(d.2.2.2.2.1,(d.2.2.2.2.2.1,())))))
   match vK (t0,d.2.1,d.2.2.1,d.2.2.2.1,d.2.2.2.2.1,d.2.2.2.2.2.1,()) with
   |none=>none
   |some (.inl aD)=>
    some (.inl (()))
   |some (.inr aD)=>
    some (.inr (aD.1,aD.2.1,()))
  else
   match vK (false,d.2.1,d.2.2.1,d.2.2.2.1,d.2.2.2.2.1,d.2.2.2.2.2.1,()) with
   |none=>none
   |some (.inl z0)=>
    some (.inl (()))
   |some (.inr z0)=>
    some (.inr (z0.1,z0.2.1,()))
 else
  some (.inl (()))
def acO (d:j2×H):O iN:=
 match N7 (d.1.1,()) with
 |none=>none
 |some aa=>
  bif !aa.1 then
   match aaP (d.1.1,()) with
   |none=>none
   |some ag=>
    bif ag.1 then
     match tb ((!decide (d.1.2.1=4)),d.1,d.1.1,d.1.2.1,0,[],()) with
     |none=>none
     |some (.inl z2)=>
      some ([],12,())
     |some (.inr z2)=>
      some (z2.1,z2.2.1,())
    else
     match tb (false,d.1,d.1.1,d.1.2.1,0,[],()) with
     |none=>none
     |some (.inl z2)=>
      some ([],12,())
     |some (.inr z2)=>
      some (z2.1,z2.2.1,())
  else
   match tb (true,d.1,d.1.1,d.1.2.1,0,[],()) with
   |none=>none
   |some (.inl aD)=>
    some ([],12,())
   |some (.inr aD)=>
    some (aD.1,aD.2.1,())
def po (d:N×H):O (j2×Int×H):=
 match Xv (d.1,[],0,0,[],()) with
 |none=>none
 |some aa=>
  match acO ((aa.2.1,(aa.2.2.1,(aa.2.2.2.1,(aa.2.2.2.2.1,())))),()) with
  |none=>none
  |some ag=>
   bif (!(!decide (ag.2.1=0))) then
    bif (!((ag.1:N)=d.1)) then
     some (([],(0,(0,([],())))),12,())
    else
     some ((aa.2.1,(aa.2.2.1,(aa.2.2.2.1,(aa.2.2.2.2.1,())))),0,())
   else
    some (([],(0,(0,([],())))),12,())
def zC (d:oX):O (Int×Int×Int×Int×H):=
 match tG (d.1,d.2.1,d.2.2.1,d.2.2.2.1,d.2.2.2.2.1,d.2.2.2.2.2.1,()) with
 |none=>none
 |some aa=>
  match tl (d.1,d.2.1,aa.1,aa.2.1,aa.2.2.1,aa.2.2.2.1,()) with
  |none=>none
  |some ag=>
   some (ag.1,ag.2.1,ag.2.2.1,ag.2.2.2.1,())
def F7 (d:N×H):O (Int×H):=
 let t0:=decide ((d.1:N)=[])
 bif t0 then
  some (0,())
 else
  bif (0:Int)<(d.1.length:Int) then
   let t1:=(decide ((((d.1.getD 0 0).toNat:Int):Int)=6))
   bif t1 then
    some (6,())
   else
    match N7 (d.1,()) with
    |none=>none
    |some aS=>
     bif aS.1 then
      some (1,())
     else
      bif d.1.length+List.length ([1]:N)<=am then
       match po ((d.1++([1]:N)),()) with
       |none=>none
       |some bP=>
        bif bP.2.1=0 then
         bif (bP.1.1:N)=d.1 then
          some (5,())
         else
          some (0,())
        else
         some (0,())
      else none
  else none
def Aw (d:aL):O (Bool×H):=
 match F7 (d.1,()) with
 |none=>none
 |some aa=>
  bif (!(aa.1=0)) then
   match F7 (d.1,()) with
   |none=>none
   |some ag=>
    match F7 (d.2.1,()) with
    |none=>none
    |some aS=>
     some ((decide (ag.1=aS.1)),())
  else
   some (false,())
def Kz (d:ck×H):O tT:=
 match po (d.1.1,()) with
 |none=>none
 |some aa=>
  bif (!(aa.2.1=0)) then
   some ((0,(0,())),())
  else
   bif aa.1.2.1=1 then
    some ((1,(0,())),())
   else
    bif aa.1.2.1=4 then
     some ((0,(0,())),())
    else
     some ((0,(((d.1.2.1.length):Int),())),())
def rx (d:UJ):O (UJ⊕((Int×Int×Int×Int×H)⊕H)):=
 bif d.2.2.1<d.2.1 then
  bif 0<=d.2.2.1&&d.2.2.1<(d.1.length:Int) then
   let t0:=(d.1.getD (d.2.2.1.toNat) ([],([],(0,()))))
   match Kz (t0,()) with
   |none=>none
   |some ag=>
    let t2:=i64.wrap (d.2.2.2.2.2.1+ag.1.1)
    let t3:=i64.wrap (d.2.2.2.2.2.2.1+ag.1.2.1)
    some (.inl (d.1,d.2.1,(i64.wrap (d.2.2.1+1)),d.2.2.2.1,d.2.2.2.2.1,t2,t3,()))
  else none
 else
  some (.inr (.inl (d.2.2.2.1,d.2.2.2.2.1,d.2.2.2.2.2.1,d.2.2.2.2.2.2.1,())))
def Ls:=b6 rx
def Fp (d:aj×H):O tT:=
 match Ls (d.1,((d.1.length):Int),0,0,0,0,0,()) with
 |none=>none
 |some (.inl z0)=>
  some ((z0.2.2.1,(z0.2.2.2.1,())),())
 |some (.inr z0)=>
  none
def Ex (d:Uc):O (Uc⊕((cE×Int×Int×Int×Int×Int×Int×Int×Int×H)⊕H)):=
 bif d.2.2.1<d.2.1 then
  bif 0<=d.2.2.1&&d.2.2.1<(d.1.length:Int) then
   let t0:=(d.1.getD (d.2.2.1.toNat) ((0,(0,())),((0,(0,())),())))
   match tG (t0.1.1,t0.1.2.1,d.2.2.2.2.2.2.2.2.1,d.2.2.2.2.2.2.2.2.2.1,d.2.2.2.2.2.2.2.2.2.2.1,d.2.2.2.2.2.2.2.2.2.2.2.1,()) with
   |none=>none
   |some ag=>
    match tl (t0.2.1.1,t0.2.1.2.1,ag.1,ag.2.1,ag.2.2.1,ag.2.2.2.1,()) with
    |none=>none
    |some aS=>
     some (.inl (d.1,d.2.1,(i64.wrap (d.2.2.1+1)),d.2.2.2.1,d.2.2.2.2.1,d.2.2.2.2.2.1,d.2.2.2.2.2.2.1,d.2.2.2.2.2.2.2.1,aS.1,aS.2.1,aS.2.2.1,aS.2.2.2.1,()))
  else none
 else
  some (.inr (.inl (d.2.2.2.1,d.2.2.2.2.1,d.2.2.2.2.2.1,d.2.2.2.2.2.2.1,d.2.2.2.2.2.2.2.1,d.2.2.2.2.2.2.2.2.1,d.2.2.2.2.2.2.2.2.2.1,d.2.2.2.2.2.2.2.2.2.2.1,d.2.2.2.2.2.2.2.2.2.2.2.1,())))
def NJ:=b6 Ex
def qb (d:cD×Int×Int×Bool×Int×Int×Int×Int×Int×Int×Int×Int×bH×H):O (zZ⊕((Int×Int×Int×Int×Int×Int×Int×Int×H)⊕H)):=
 bif d.2.2.2.1 then
  match tG ((-1:Int),0,d.2.2.2.2.2.2.2.2.1,d.2.2.2.2.2.2.2.2.2.1,d.2.2.2.2.2.2.2.2.2.2.1,d.2.2.2.2.2.2.2.2.2.2.2.1,()) with
  |none=>none
  |some aa=>
   some (.inl (d.1,d.2.1,(i64.wrap (d.2.2.1+1)),d.2.2.2.2.1,d.2.2.2.2.2.1,d.2.2.2.2.2.2.1,d.2.2.2.2.2.2.2.1,aa.1,aa.2.1,aa.2.2.1,aa.2.2.2.1,()))
 else
  let t0:=decide (d.2.2.2.2.2.2.2.2.2.2.2.2.1.1=2)
  bif t0 then
   match tl ((-64:Int),0,d.2.2.2.2.2.2.2.2.1,d.2.2.2.2.2.2.2.2.2.1,d.2.2.2.2.2.2.2.2.2.2.1,d.2.2.2.2.2.2.2.2.2.2.2.1,()) with
   |none=>none
   |some ag=>
    some (.inl (d.1,d.2.1,(i64.wrap (d.2.2.1+1)),d.2.2.2.2.1,d.2.2.2.2.2.1,d.2.2.2.2.2.2.1,d.2.2.2.2.2.2.2.1,ag.1,ag.2.1,ag.2.2.1,ag.2.2.2.1,()))
  else
   let t1:=decide (d.2.2.2.2.2.2.2.2.2.2.2.2.1.1=3)
   bif t1 then
    match zC ((-1000000000000000:Int),0,d.2.2.2.2.2.2.2.2.1,d.2.2.2.2.2.2.2.2.2.1,d.2.2.2.2.2.2.2.2.2.2.1,d.2.2.2.2.2.2.2.2.2.2.2.1,()) with
    |none=>none
    |some aS=>
     some (.inl (d.1,d.2.1,(i64.wrap (d.2.2.1+1)),d.2.2.2.2.1,d.2.2.2.2.2.1,d.2.2.2.2.2.2.1,d.2.2.2.2.2.2.2.1,aS.1,aS.2.1,aS.2.2.1,aS.2.2.2.1,()))
   else
    let t2:=decide (d.2.2.2.2.2.2.2.2.2.2.2.2.1.1=6)
    bif t2 then
     some (.inl (d.1,d.2.1,(i64.wrap (d.2.2.1+1)),d.2.2.2.2.1,d.2.2.2.2.2.1,d.2.2.2.2.2.2.1,d.2.2.2.2.2.2.2.1,d.2.2.2.2.2.2.2.2.1,d.2.2.2.2.2.2.2.2.2.1,d.2.2.2.2.2.2.2.2.2.2.1,d.2.2.2.2.2.2.2.2.2.2.2.1,()))
    else
     match Aw (d.2.2.2.2.2.2.2.2.2.2.2.2.1.2.2.2.2.1,d.2.2.2.2.2.2.2.2.2.2.2.2.1.2.2.2.2.2.1,()) with
     |none=>none
     |some bP=>
      bif !bP.1 then
       match zC ((-1000000000000000:Int),1000000000000000,d.2.2.2.2.2.2.2.2.1,d.2.2.2.2.2.2.2.2.2.1,d.2.2.2.2.2.2.2.2.2.2.1,d.2.2.2.2.2.2.2.2.2.2.2.1,()) with
       |none=>none
       |some dz=>
        some (.inl (d.1,d.2.1,(i64.wrap (d.2.2.1+1)),d.2.2.2.2.1,d.2.2.2.2.2.1,d.2.2.2.2.2.2.1,d.2.2.2.2.2.2.2.1,dz.1,dz.2.1,dz.2.2.1,dz.2.2.2.1,()))
      else
       let t4:=decide (d.2.2.2.2.2.2.2.2.2.2.2.2.1.1=5)
       bif t4 then
        match tG ((-1000000000000000:Int),d.2.2.2.2.2.2.2.2.2.1,d.2.2.2.2.2.2.2.2.1,d.2.2.2.2.2.2.2.2.2.1,d.2.2.2.2.2.2.2.2.2.2.1,d.2.2.2.2.2.2.2.2.2.2.2.1,()) with
        |none=>none
        |some gu=>
         match tl ((-1000000000000000:Int),gu.2.2.2.1,gu.1,gu.2.1,gu.2.2.1,gu.2.2.2.1,()) with
         |none=>none
         |some iT=>
          some (.inl (d.1,d.2.1,(i64.wrap (d.2.2.1+1)),d.2.2.2.2.1,d.2.2.2.2.2.1,d.2.2.2.2.2.2.1,d.2.2.2.2.2.2.2.1,iT.1,iT.2.1,iT.2.2.1,iT.2.2.2.1,()))
       else
        match zC ((-1000000000000000:Int),0,d.2.2.2.2.2.2.2.2.1,d.2.2.2.2.2.2.2.2.2.1,d.2.2.2.2.2.2.2.2.2.2.1,d.2.2.2.2.2.2.2.2.2.2.2.1,()) with
        |none=>none
        |some gu=>
         some (.inl (d.1,d.2.1,(i64.wrap (d.2.2.1+1)),d.2.2.2.2.1,d.2.2.2.2.2.1,d.2.2.2.2.2.2.1,d.2.2.2.2.2.2.2.1,gu.1,gu.2.1,gu.2.2.1,gu.2.2.2.1,()))
def ow (d:Bool×cD×Int×Int×Bool×Int×Int×Int×Int×Int×Int×Int×Int×bH×H):O (zZ⊕((Int×Int×Int×Int×Int×Int×Int×Int×H)⊕H)):=
 bif d.2.2.2.2.1 then
  match tG (0,1,d.2.2.2.2.2.2.2.2.2.1,d.2.2.2.2.2.2.2.2.2.2.1,d.2.2.2.2.2.2.2.2.2.2.2.1,d.2.2.2.2.2.2.2.2.2.2.2.2.1,()) with
  |none=>none
  |some aa=>
   let t1:=i64.wrap (d.2.2.2.1+1)
   some (.inl (d.2.1,d.2.2.1,t1,d.2.2.2.2.2.1,d.2.2.2.2.2.2.1,d.2.2.2.2.2.2.2.1,d.2.2.2.2.2.2.2.2.1,aa.1,aa.2.1,aa.2.2.1,aa.2.2.2.1,()))
 else
  let t0:=decide (d.2.2.2.2.2.2.2.2.2.2.2.2.2.1.1=1)
  bif t0 then
   let t1:Int:=((d.2.2.2.2.2.2.2.2.2.2.2.2.2.1.2.2.1.length):Int)
   match tl ((-64:Int),t1,d.2.2.2.2.2.2.2.2.2.1,d.2.2.2.2.2.2.2.2.2.2.1,d.2.2.2.2.2.2.2.2.2.2.2.1,d.2.2.2.2.2.2.2.2.2.2.2.2.1,()) with
   |none=>none
   |some aS=>
    let t3:=i64.wrap (d.2.2.2.1+1)
    some (.inl (d.2.1,d.2.2.1,t3,d.2.2.2.2.2.1,d.2.2.2.2.2.2.1,d.2.2.2.2.2.2.2.1,d.2.2.2.2.2.2.2.2.1,aS.1,aS.2.1,aS.2.2.1,aS.2.2.2.1,()))
  else
   let t1:=decide (d.2.2.2.2.2.2.2.2.2.2.2.2.2.1.1=2)
   bif t1 then
    qb (d.2.1,d.2.2.1,d.2.2.2.1,d.1,d.2.2.2.2.2.1,d.2.2.2.2.2.2.1,d.2.2.2.2.2.2.2.1,d.2.2.2.2.2.2.2.2.1,d.2.2.2.2.2.2.2.2.2.1,d.2.2.2.2.2.2.2.2.2.2.1,d.2.2.2.2.2.2.2.2.2.2.2.1,d.2.2.2.2.2.2.2.2.2.2.2.2.1,d.2.2.2.2.2.2.2.2.2.2.2.2.2.1,())
   else
    qb (d.2.1,d.2.2.1,d.2.2.2.1,false,d.2.2.2.2.2.1,d.2.2.2.2.2.2.1,d.2.2.2.2.2.2.2.1,d.2.2.2.2.2.2.2.2.1,d.2.2.2.2.2.2.2.2.2.1,d.2.2.2.2.2.2.2.2.2.2.1,d.2.2.2.2.2.2.2.2.2.2.2.1,d.2.2.2.2.2.2.2.2.2.2.2.2.1,d.2.2.2.2.2.2.2.2.2.2.2.2.2.1,())
def nA (d:Bool×cD×Int×Int×Int×Int×Int×Int×Int×Int×Int×Int×bH×H):O (zZ⊕((Int×Int×Int×Int×Int×Int×Int×Int×H)⊕H)):=
 let t0:=decide (d.2.2.2.2.2.2.2.2.2.2.2.2.1.1=1)
 bif t0 then
  ow (d.1,d.2.1,d.2.2.1,d.2.2.2.1,d.1,d.2.2.2.2.1,d.2.2.2.2.2.1,d.2.2.2.2.2.2.1,d.2.2.2.2.2.2.2.1,d.2.2.2.2.2.2.2.2.1,d.2.2.2.2.2.2.2.2.2.1,d.2.2.2.2.2.2.2.2.2.2.1,d.2.2.2.2.2.2.2.2.2.2.2.1,d.2.2.2.2.2.2.2.2.2.2.2.2.1,())
 else
  ow (d.1,d.2.1,d.2.2.1,d.2.2.2.1,false,d.2.2.2.2.1,d.2.2.2.2.2.1,d.2.2.2.2.2.2.1,d.2.2.2.2.2.2.2.1,d.2.2.2.2.2.2.2.2.1,d.2.2.2.2.2.2.2.2.2.1,d.2.2.2.2.2.2.2.2.2.2.1,d.2.2.2.2.2.2.2.2.2.2.2.1,d.2.2.2.2.2.2.2.2.2.2.2.2.1,())
def tw (d:zZ):O (zZ⊕((Int×Int×Int×Int×Int×Int×Int×Int×H)⊕H)):=
 bif d.2.2.1<d.2.1 then
  bif 0<=d.2.2.1&&d.2.2.1<(d.1.length:Int) then
   let t0:=(d.1.getD (d.2.2.1.toNat) (0,([],([],(([],([],())),([],([],(0,()))))))))
   match po (t0.2.1,()) with
   |none=>none
   |some ag=>
    bif ag.2.1=0 then
     nA ((decide (ag.1.2.1=1)),d.1,d.2.1,d.2.2.1,d.2.2.2.1,d.2.2.2.2.1,d.2.2.2.2.2.1,d.2.2.2.2.2.2.1,d.2.2.2.2.2.2.2.1,d.2.2.2.2.2.2.2.2.1,d.2.2.2.2.2.2.2.2.2.1,d.2.2.2.2.2.2.2.2.2.2.1,t0,())
    else
     nA (false,d.1,d.2.1,d.2.2.1,d.2.2.2.1,d.2.2.2.2.1,d.2.2.2.2.2.1,d.2.2.2.2.2.2.1,d.2.2.2.2.2.2.2.1,d.2.2.2.2.2.2.2.2.1,d.2.2.2.2.2.2.2.2.2.1,d.2.2.2.2.2.2.2.2.2.2.1,t0,())
  else none
 else
  some (.inr (.inl (d.2.2.2.1,d.2.2.2.2.1,d.2.2.2.2.2.1,d.2.2.2.2.2.2.1,d.2.2.2.2.2.2.2.1,d.2.2.2.2.2.2.2.2.1,d.2.2.2.2.2.2.2.2.2.1,d.2.2.2.2.2.2.2.2.2.2.1,())))
def NK:=b6 tw
def uD (d:cE×H):O (eR×H):=
 let t0:=(decide ((((d.1.2.2.1.length):Int):Int)=0))
 bif t0 then
  match Fp (d.1.1,()) with
  |none=>none
  |some ag=>
   some (((ag.1.1,(ag.1.1,())),((ag.1.2.1,(ag.1.2.1,())),())),())
 else
  match NJ (d.1.2.2.2.1,((d.1.2.2.2.1.length):Int),0,d.1,0,0,0,0,0,0,0,0,()) with
  |none=>none
  |some (.inl aD)=>
   match NK (aD.1.2.2.2.2.1,((aD.1.2.2.2.2.1.length):Int),0,aD.2.1,aD.2.2.1,aD.2.2.2.1,aD.2.2.2.2.1,aD.2.2.2.2.2.1,aD.2.2.2.2.2.2.1,aD.2.2.2.2.2.2.2.1,aD.2.2.2.2.2.2.2.2.1,()) with
   |none=>none
   |some (.inl z2)=>
    some (((z2.2.2.2.2.1,(z2.2.2.2.2.2.1,())),((z2.2.2.2.2.2.2.1,(z2.2.2.2.2.2.2.2.1,())),())),())
   |some (.inr z2)=>
    none
  |some (.inr aD)=>
   none
def yC (fR:r9->O (Int×H)) (d:Int×Int×Int×Int×Int×bB×cE×au×H):O (E9⊕((Int×H)⊕(Int×H))):=
 bif 0<=d.2.1&&d.2.1<(d.2.2.2.2.2.2.1.2.2.1.length:Int) then
  let t0:=(d.2.2.2.2.2.2.1.2.2.1.getD (d.2.1.toNat) 0)
  match ik (d.2.2.2.2.2.1,t0,()) with
  |none=>none
  |some ag=>
   match uD (ag.1,()) with
   |none=>none
   |some aS=>
    bif 0<=d.2.1&&d.2.1<(d.2.2.2.2.2.2.1.2.2.2.1.length:Int) then
     let t3:=(d.2.2.2.2.2.2.1.2.2.2.1.getD (d.2.1.toNat) ((0,(0,())),((0,(0,())),())))
     let t4:=(!(aB.eqb eJ aS.1 t3))
     bif t4 then
      some (.inr (.inl (0,())))
     else
      let t5:=i64.wrap (d.2.2.2.2.1+1)
      some (.inl (d.1,d.2.2.1,d.2.2.2.1,t5,d.2.2.2.2.2.1,d.2.2.2.2.2.2.1,d.2.2.2.2.2.2.2.1,()))
    else none
 else none
def io (fR:r9->O (Int×H)) (d:E9):O (E9⊕((Int×H)⊕(Int×H))):=
 bif d.2.2.2.1<d.2.2.1 then
  bif 0<=d.2.2.2.1&&d.2.2.2.1<(d.2.2.2.2.2.2.1.length:Int) then
   let t0:=(d.2.2.2.2.2.2.1.getD (d.2.2.2.1.toNat) ([],([],())))
   bif 0<=d.2.2.2.1&&d.2.2.2.1<(d.2.2.2.2.2.1.2.2.1.length:Int) then
    let t1:=(d.2.2.2.2.2.1.2.2.1.getD (d.2.2.2.1.toNat) 0)
    match fR (d.2.2.2.2.1,t1,t0,(i64.wrap (d.1-1)),()) with
    |none=>none
    |some aS=>
     bif (!(decide (aS.1=0))) then
      bif d.2.2.2.1>0 then
       bif (!(aS.1=d.2.1)) then
        some (.inr (.inl (0,())))
       else
        yC fR (d.1,d.2.2.2.1,aS.1,d.2.2.1,d.2.2.2.1,d.2.2.2.2.1,d.2.2.2.2.2.1,d.2.2.2.2.2.2.1,())
      else
       yC fR (d.1,d.2.2.2.1,aS.1,d.2.2.1,d.2.2.2.1,d.2.2.2.2.1,d.2.2.2.2.2.1,d.2.2.2.2.2.2.1,())
     else
      some (.inr (.inl (0,())))
   else none
  else none
 else
  some (.inr (.inr (d.2.1,())))
def DJ (fR:r9->O (Int×H)) (d:E9):O ((Int×H)⊕(Int×H)):=b6 (io fR) d
def ip (fR:r9->O (Int×H)) (d:Int×Bool×bB×aL×cE×H):O (Int×H):=
 bif d.2.1 then
  some (0,())
 else
  match tX (d.2.2.2.2.1,()) with
  |none=>none
  |some aa=>
   bif aa.1 then
    some (1,())
   else
    match Av (d.2.2.2.2.1,d.2.2.2.1,()) with
    |none=>none
    |some ag=>
     match DJ fR (d.1,0,((ag.1.length):Int),0,d.2.2.1,d.2.2.2.2.1,ag.1,()) with
     |none=>none
     |some (.inl z2)=>
      some (z2.1,())
     |some (.inr z2)=>
      some ((i64.wrap (z2.1+1)),())
def k4 (fR:r9->O (Int×H)) (d:r9):O (Int×H):=
 match ik (d.1,d.2.1,()) with
 |none=>none
 |some aa=>
  bif (!(!decide (aa.2.1=0))) then
   bif (!(decide (d.2.2.2.1=0))) then
    match tH (aa.1,d.2.2.1,()) with
    |none=>none
    |some ag=>
     ip fR (d.2.2.2.1,(!ag.1),d.1,d.2.2.1,aa.1,())
   else
    ip fR (d.2.2.2.1,true,d.1,d.2.2.1,aa.1,())
  else
   ip fR (d.2.2.2.1,true,d.1,d.2.2.1,aa.1,())
def kI:Nat->r9->O (Int×H)
 |0,_=>none
 |n+1,d=>k4 (kI n) d
def wv (d:r9):O (Int×H):=kI jf d
def wA (d:cQ×H):O (Bool×H):=
 match wB (d.1.2.2.1,()) with
 |none=>none
 |some aa=>
  bif aa.1 then
   match wv (d.1.1,d.1.2.1,([],([],())),64,()) with
   |none=>none
   |some ag=>
    some ((decide (ag.1>0)),())
  else
   some (false,())
def o5 (fy:(cQ×N×H)->O ql) (fB:(bi×H)->O (cQ×Int×H)) (fL:(cQ×bH×H)->O (cQ×Int×H)) (fA:(cQ×H)->O (Int×H)) (fJ:H->O (cQ×H)) (fM:(cQ×aL×H)->O (Int×aj×H)) (fK:Ae->O (Bool×H)) (fx:(cQ×H)->O (Bool×H)) (d:Bool×Int×Bool×Int×Bool×cQ×ck×aj×cQ×H):O ((Bool×H)⊕H):=
 bif d.2.2.2.2.1 then
  let t0:=(aB.eqb bx d.2.2.2.2.2.2.1 (([99,47,120]:N),(([49]:N),(0,()))))
  bif t0 then
   bif d.1 then
    bif d.2.1=2 then
     bif !d.2.2.1 then
      bif d.2.2.2.1=1 then
       match fK (d.2.2.2.2.2.2.2.1,([(([99,47,120]:N),(([49]:N),(0,())))]:aj),()) with
       |none=>none
       |some ag=>
        bif ag.1 then
         match fx (d.2.2.2.2.2.1,()) with
         |none=>none
         |some aS=>
          bif aS.1 then
           match fx (d.2.2.2.2.2.2.2.2.1,()) with
           |none=>none
           |some bP=>
            bif bP.1 then
             match fA (d.2.2.2.2.2.1,()) with
             |none=>none
             |some dz=>
              bif dz.1=2 then
               match fA (d.2.2.2.2.2.2.2.2.1,()) with
               |none=>none
               |some gu=>
                bif gu.1=1 then
                 match fx ((([],()),(0,((0,(0,(0,()))),()))),()) with
                 |none=>none
                 |some iT=>
                  some (.inl ((!iT.1),()))
                else
                 some (.inl (false,()))
              else
               some (.inl (false,()))
            else
             some (.inl (false,()))
          else
           some (.inl (false,()))
        else
         some (.inl (false,()))
      else
       some (.inl (false,()))
     else
      some (.inl (false,()))
    else
     some (.inl (false,()))
   else
    some (.inl (false,()))
  else
   some (.inl (false,()))
 else
  some (.inl (false,()))
def Te (fy:(cQ×N×H)->O ql) (fB:(bi×H)->O (cQ×Int×H)) (fL:(cQ×bH×H)->O (cQ×Int×H)) (fA:(cQ×H)->O (Int×H)) (fJ:H->O (cQ×H)) (fM:(cQ×aL×H)->O (Int×aj×H)) (fK:Ae->O (Bool×H)) (fx:(cQ×H)->O (Bool×H)) (d:H):O (Bool×H):=
 match fJ (()) with
 |none=>none
 |some aa=>
  match fy (aa.1,([99,47,120]:N),()) with
  |none=>none
  |some ag=>
   match fy (aa.1,([97,47,120]:N),()) with
   |none=>none
   |some aS=>
    match fM (aa.1,([],([],())),()) with
    |none=>none
    |some bP=>
     match fB ((1,(2,(1,()))),()) with
     |none=>none
     |some dz=>
      match fL (aa.1,(0,([],([],(([],([],())),([],([],(0,()))))))),()) with
      |none=>none
      |some gu=>
       match fB (aa.1.2.2.1,()) with
       |none=>none
       |some iT=>
        let t7:=decide (ag.2.2.2.1=0)
        bif t7 then
         let t8:=decide (aS.2.2.2.1=0)
         bif t8 then
          bif bP.1=0 then
           bif dz.2.1=120 then
            bif gu.2.1=50 then
             match o5 fy fB fL fA fJ fM fK fx (ag.2.1,ag.2.2.1,aS.2.1,aS.2.2.1,(decide (iT.2.1=0)),aa.1,ag.1,bP.2.1,iT.1,()) with
             |none=>none
             |some (.inl z9)=>
              some (z9.1,())
             |some (.inr z9)=>
              none
            else
             match o5 fy fB fL fA fJ fM fK fx (ag.2.1,ag.2.2.1,aS.2.1,aS.2.2.1,false,aa.1,ag.1,bP.2.1,iT.1,()) with
             |none=>none
             |some (.inl z9)=>
              some (z9.1,())
             |some (.inr z9)=>
              none
           else
            match o5 fy fB fL fA fJ fM fK fx (ag.2.1,ag.2.2.1,aS.2.1,aS.2.2.1,false,aa.1,ag.1,bP.2.1,iT.1,()) with
            |none=>none
            |some (.inl z9)=>
             some (z9.1,())
            |some (.inr z9)=>
             none
          else
           match o5 fy fB fL fA fJ fM fK fx (ag.2.1,ag.2.2.1,aS.2.1,aS.2.2.1,false,aa.1,ag.1,bP.2.1,iT.1,()) with
           |none=>none
           |some (.inl z9)=>
            some (z9.1,())
           |some (.inr z9)=>
            none
         else
          match o5 fy fB fL fA fJ fM fK fx (ag.2.1,ag.2.2.1,aS.2.1,aS.2.2.1,false,aa.1,ag.1,bP.2.1,iT.1,()) with
          |none=>none
          |some (.inl z9)=>
           some (z9.1,())
          |some (.inr z9)=>
           none
        else
         match o5 fy fB fL fA fJ fM fK fx (ag.2.1,ag.2.2.1,aS.2.1,aS.2.2.1,false,aa.1,ag.1,bP.2.1,iT.1,()) with
         |none=>none
         |some (.inl od)=>
          some (od.1,())
         |some (.inr od)=>
          none
def M7 (d:H):O (Bool×H):=Te Gy Pa un NX NG ll wy wA d
def AI (d:KX):O (Bool×H):=
 bif (!(Op.bytesLess d.2.1 d.1.1)) then
  let t0:=decide ((d.1.2.1:N)=[])
  bif !t0 then
   some ((Op.bytesLess d.2.1 d.1.2.1),())
  else
   some (true,())
 else
  some (false,())
def I1 (d:pH):O (pH⊕((Bool×ck×aj×H)⊕H)):=
 bif 0<=d.2.2.1&&d.2.2.1<(d.1.length:Int) then
  let t0:=(d.1.getD (d.2.2.1.toNat) ([],([],(0,()))))
  let t1:=(!decide ((t0.1:N)=d.2.2.2.1.1))
  bif t1 then
   bif 0<=d.2.2.1&&d.2.2.1<(d.1.length:Int) then
    let t2:=(d.1.getD (d.2.2.1.toNat) ([],([],(0,()))))
    bif ((d.2.2.2.2.1.length+List.length ([t2]:aj))*40<=am) then
     let t3:aj:=(d.2.2.2.2.1++([t2]:aj))
     some (.inl (d.1,d.2.1,(i64.wrap (d.2.2.1+1)),d.2.2.2.1,t3,()))
    else none
   else none
  else
   some (.inl (d.1,d.2.1,(i64.wrap (d.2.2.1+1)),d.2.2.2.1,d.2.2.2.2.1,()))
 else none
def i5 (d:UK):O (pH⊕((Bool×ck×aj×H)⊕H)):=
 bif d.2.2.2.1 then
  bif ((d.2.2.2.2.2.1.length+List.length ([d.2.2.2.2.1]:aj))*40<=am) then
   let t0:aj:=(d.2.2.2.2.2.1++([d.2.2.2.2.1]:aj))
   I1 (d.1,true,d.2.2.1,d.2.2.2.2.1,t0,())
  else none
 else
  I1 (d.1,d.2.1,d.2.2.1,d.2.2.2.2.1,d.2.2.2.2.2.1,())
def vO (d:pH):O (pH⊕((Bool×ck×aj×H)⊕H)):=
 let t0:=(decide (d.2.2.1<((d.1.length):Int)))
 bif t0 then
  bif !d.2.1 then
   bif 0<=d.2.2.1&&d.2.2.1<(d.1.length:Int) then
    let t1:=(d.1.getD (d.2.2.1.toNat) ([],([],(0,()))))
    let t2:=(Op.bytesLess d.2.2.2.1.1 t1.1||decide ((d.2.2.2.1.1:N)=t1.1))
    i5 (d.1,d.2.1,d.2.2.1,t2,d.2.2.2.1,d.2.2.2.2.1,())
   else none
  else
   i5 (d.1,d.2.1,d.2.2.1,false,d.2.2.2.1,d.2.2.2.2.1,())
 else
  some (.inr (.inl (d.2.1,d.2.2.2.1,d.2.2.2.2.1,())))
def XF:=b6 vO
def wl (d:aj×ck×H):O (aj×H):=
 match XF (d.1,false,0,d.2.1,[],()) with
 |none=>none
 |some (.inl z0)=>
  bif !z0.1 then
   bif ((z0.2.2.1.length+List.length ([z0.2.1]:aj))*40<=am) then
    let t1:aj:=(z0.2.2.1++([z0.2.1]:aj))
    some (t1,())
   else none
  else
   some (z0.2.2.1,())
 |some (.inr z0)=>
  none
def EB (d:au×N×Int×H):O ((au×N×Int×H)⊕((Bool×H)⊕H)):=
 let t0:=(decide (d.2.2.1<((d.1.length):Int)))
 bif t0 then
  bif 0<=d.2.2.1&&d.2.2.1<(d.1.length:Int) then
   let t1:=(d.1.getD (d.2.2.1.toNat) ([],([],())))
   match AI (t1,d.2.1,()) with
   |none=>none
   |some aS=>
    bif aS.1 then
     some (.inr (.inl (true,())))
    else
     some (.inl (d.1,d.2.1,(i64.wrap (d.2.2.1+1)),()))
  else none
 else
  some (.inr (.inr (())))
def aaZ:=b6 EB
def Gp (d:au×N×H):O (Bool×H):=
 match aaZ (d.1,d.2.1,0,()) with
 |none=>none
 |some (.inl z0)=>
  some (z0.1,())
 |some (.inr z0)=>
  some (false,())
def Dn (d:E5):O (E5⊕((aj×H)⊕H)):=
 let t0:=(decide (d.2.2.1<((d.1.length):Int)))
 bif t0 then
  bif 0<=d.2.2.1&&d.2.2.1<(d.1.length:Int) then
   let t1:=(d.1.getD (d.2.2.1.toNat) ([],([],(0,()))))
   match Gp (d.2.1,t1.1,()) with
   |none=>none
   |some aS=>
    bif !aS.1 then
     bif 0<=d.2.2.1&&d.2.2.1<(d.1.length:Int) then
      let t3:=(d.1.getD (d.2.2.1.toNat) ([],([],(0,()))))
      bif ((d.2.2.2.1.length+List.length ([t3]:aj))*40<=am) then
       let t4:aj:=(d.2.2.2.1++([t3]:aj))
       some (.inl (d.1,d.2.1,(i64.wrap (d.2.2.1+1)),t4,()))
      else none
     else none
    else
     some (.inl (d.1,d.2.1,(i64.wrap (d.2.2.1+1)),d.2.2.2.1,()))
  else none
 else
  some (.inr (.inl (d.2.2.2.1,())))
def Wp:=b6 Dn
def vY (d:w0):O (aj×H):=
 match Wp (d.1,d.2.1,0,[],()) with
 |none=>none
 |some (.inl z0)=>
  some (z0.1,())
 |some (.inr z0)=>
  none
def Du (d:E5):O (E5⊕((aj×H)⊕H)):=
 let t0:=(decide (d.2.2.1<((d.1.length):Int)))
 bif t0 then
  bif 0<=d.2.2.1&&d.2.2.1<(d.1.length:Int) then
   let t1:=(d.1.getD (d.2.2.1.toNat) ([],([],(0,()))))
   match Gp (d.2.1,t1.1,()) with
   |none=>none
   |some aS=>
    bif aS.1 then
     bif 0<=d.2.2.1&&d.2.2.1<(d.1.length:Int) then
      let t3:=(d.1.getD (d.2.2.1.toNat) ([],([],(0,()))))
      bif ((d.2.2.2.1.length+List.length ([t3]:aj))*40<=am) then
       let t4:aj:=(d.2.2.2.1++([t3]:aj))
       some (.inl (d.1,d.2.1,(i64.wrap (d.2.2.1+1)),t4,()))
      else none
     else none
    else
     some (.inl (d.1,d.2.1,(i64.wrap (d.2.2.1+1)),d.2.2.2.1,()))
  else none
 else
  some (.inr (.inl (d.2.2.2.1,())))
def W6:=b6 Du
def Kn (d:w0):O (aj×H):=
 match W6 (d.1,d.2.1,0,[],()) with
 |none=>none
 |some (.inl z0)=>
  some (z0.1,())
 |some (.inr z0)=>
  none
def N0 (d:N×N×N×H):O w2:=
 match v8 (d.1,d.2.1,()) with
 |none=>none
 |some aa=>
  bif !aa.1 then
   some ([],false,())
  else
   bif (0<=((d.2.1.length):Int)&&(((d.2.1.length):Int):Int)<=(d.1.length:Int)&&((d.1.length:Int):Int)<=(d.1.length:Int)) then
    let t1:=(List.drop (Int.toNat ((d.2.1.length):Int)) (List.take (Int.toNat (d.1.length:Int)) d.1))
    bif d.2.2.1.length+t1.length<=am then
     some ((d.2.2.1++t1),true,())
    else none
   else none
def JU (d:Int×bH×aj×H):O ((Int×bH×aj×H)⊕((aj×H)⊕H)):=
 let t0:=(decide (d.1<((d.2.2.1.length):Int)))
 bif t0 then
  bif 0<=d.1&&d.1<(d.2.2.1.length:Int) then
   let t1:=(d.2.2.1.getD (d.1.toNat) ([],([],(0,()))))
   match AI (d.2.1.2.2.2.1,t1.1,()) with
   |none=>none
   |some aS=>
    bif aS.1 then
     bif 0<=d.1&&d.1<(d.2.2.1.length:Int) then
      let t3:=(List.set d.2.2.1 (d.1.toNat) ((d.2.2.1.getD (d.1.toNat) ([],([],(0,())))).1,((d.2.2.1.getD (d.1.toNat) ([],([],(0,())))).2.1,(d.2.1.2.2.2.2.2.2.1,(d.2.2.1.getD (d.1.toNat) ([],([],(0,())))).2.2.2))))
      some (.inl ((i64.wrap (d.1+1)),d.2.1,t3,()))
     else none
    else
     some (.inl ((i64.wrap (d.1+1)),d.2.1,d.2.2.1,()))
  else none
 else
  some (.inr (.inl (d.2.2.1,())))
def YA:=b6 JU
def JV (d:Int×bH×aj×aj×H):O ((Int×bH×aj×aj×H)⊕((aj×H)⊕H)):=
 let t0:=(decide (d.1<((d.2.2.2.1.length):Int)))
 bif t0 then
  bif 0<=d.1&&d.1<(d.2.2.2.1.length:Int) then
   let t1:=(d.2.2.2.1.getD (d.1.toNat) ([],([],(0,()))))
   match N0 (t1.1,d.2.1.2.2.2.2.1,d.2.1.2.2.2.2.2.1,()) with
   |none=>none
   |some aS=>
    bif 0<=d.1&&d.1<(d.2.2.2.1.length:Int) then
     let t3:=(d.2.2.2.1.getD (d.1.toNat) ([],([],(0,()))))
     bif 0<=d.1&&d.1<(d.2.2.2.1.length:Int) then
      let t4:=(d.2.2.2.1.getD (d.1.toNat) ([],([],(0,()))))
      match wl (d.2.2.1,(aS.1,(t3.2.1,(t4.2.2.1,()))),()) with
      |none=>none
      |some gu=>
       some (.inl ((i64.wrap (d.1+1)),d.2.1,gu.1,d.2.2.2.1,()))
     else none
    else none
  else none
 else
  some (.inr (.inl (d.2.2.1,())))
def L3:=b6 JV
def tz (d:aj×bH×H):O (aj×H):=
 bif d.2.1.1=1 then
  match wl (d.1,(d.2.1.2.1,(d.2.1.2.2.1,(d.2.1.2.2.2.2.2.2.1,()))),()) with
  |none=>none
  |some aa=>
   some (aa.1,())
 else
  bif d.2.1.1=2 then
   match oL (d.2.1.2.1,()) with
   |none=>none
   |some aa=>
    match vY (d.1,([aa.1]:au),()) with
    |none=>none
    |some ag=>
     some (ag.1,())
  else
   bif d.2.1.1=3 then
    match vY (d.1,([d.2.1.2.2.2.1]:au),()) with
    |none=>none
    |some aa=>
     some (aa.1,())
   else
    bif d.2.1.1=6 then
     bif ((List.length ([]:aj)+d.1.length)*40<=am) then
      let t0:aj:=([]++d.1)
      match YA (0,d.2.1,t0,()) with
      |none=>none
      |some (.inl aD)=>
       some (aD.1,())
      |some (.inr aD)=>
       none
     else none
    else
     match nY (d.2.1.2.2.2.2.2.1,()) with
     |none=>none
     |some aa=>
      match vY (d.1,([aa.1]:au),()) with
      |none=>none
      |some ag=>
       match nY (d.2.1.2.2.2.2.1,()) with
       |none=>none
       |some aS=>
        match Kn (d.1,([aS.1]:au),()) with
        |none=>none
        |some bP=>
         bif d.2.1.1=4 then
          match nY (d.2.1.2.2.2.2.1,()) with
          |none=>none
          |some dz=>
           match vY (ag.1,([dz.1]:au),()) with
           |none=>none
           |some gu=>
            match L3 (0,d.2.1,gu.1,bP.1,()) with
            |none=>none
            |some (.inl kT)=>
             some (kT.1,())
            |some (.inr kT)=>
             none
         else
          match L3 (0,d.2.1,ag.1,bP.1,()) with
          |none=>none
          |some (.inl z4)=>
           some (z4.1,())
          |some (.inr z4)=>
           none
def Km (d:aj×cD×Int×H):O ((aj×cD×Int×H)⊕((aj×H)⊕H)):=
 let t0:=(decide (d.2.2.1<((d.2.1.length):Int)))
 bif t0 then
  bif 0<=d.2.2.1&&d.2.2.1<(d.2.1.length:Int) then
   let t1:=(d.2.1.getD (d.2.2.1.toNat) (0,([],([],(([],([],())),([],([],(0,()))))))))
   match tz (d.1,t1,()) with
   |none=>none
   |some aS=>
    some (.inl (aS.1,d.2.1,(i64.wrap (d.2.2.1+1)),()))
  else none
 else
  some (.inr (.inl (d.1,())))
def aam:=b6 Km
def OM (d:aj×cD×H):O (aj×H):=
 match aam (d.1,d.2.1,0,()) with
 |none=>none
 |some (.inl z0)=>
  some (z0.1,())
 |some (.inr z0)=>
  none
def Jv (DB:fh->O (aj×H)) (d:K2):O (K2⊕((cE×aj×H)⊕H)):=
 let t0:=(decide (d.1<((d.2.2.1.2.2.1.length):Int)))
 bif t0 then
  bif 0<=d.1&&d.1<(d.2.2.1.2.2.1.length:Int) then
   let t1:=(d.2.2.1.2.2.1.getD (d.1.toNat) 0)
   match DB (d.2.1,t1,()) with
   |none=>none
   |some aS=>
    bif (d.2.2.2.1.length+aS.1.length)*40<=am then
     some (.inl ((i64.wrap (d.1+1)),d.2.1,d.2.2.1,(d.2.2.2.1++aS.1),()))
    else none
  else none
 else
  some (.inr (.inl (d.2.2.1,d.2.2.2.1,())))
def WD (DB:fh->O (aj×H)) (d:K2):O ((cE×aj×H)⊕H):=b6 (Jv DB) d
def Df (DB:fh->O (aj×H)) (d:fh):O (aj×H):=
 match zL (d.1,d.2.1,()) with
 |none=>none
 |some aa=>
  let t1:=(decide ((((aa.1.2.2.1.length):Int):Int)=0))
  bif t1 then
   some (aa.1.1,())
  else
   match WD DB (0,d.1,aa.1,[],()) with
   |none=>none
   |some (.inl z2)=>
    match OM (z2.2.1,z2.1.2.2.2.2.1,()) with
    |none=>none
    |some bP=>
     some (bP.1,())
   |some (.inr z2)=>
    none
def De:Nat->fh->O (aj×H)
 |0,_=>none
 |n+1,d=>Df (De n) d
def Zf (d:fh):O (aj×H):=De jf d
def acg (d:cQ×H):O (aj×H):=
 match Zf (d.1.1,d.1.2.1,()) with
 |none=>none
 |some aa=>
  some (aa.1,())
def Dt (d:ct×Int×Int×bB×ct×H):O ((ct×Int×Int×bB×ct×H)⊕(KY⊕(bB×ct×H))):=
 bif d.2.2.1<d.2.1 then
  bif 0<=d.2.2.1&&d.2.2.1<(d.1.length:Int) then
   let t0:=(d.1.getD (d.2.2.1.toNat) 0)
   match mt (d.2.2.2.1,t0,()) with
   |none=>none
   |some ag=>
    bif !ag.1 then
     some (.inr (.inl (false,d.2.2.2.1,d.2.2.2.2.1,())))
    else
     bif 0<=t0&&t0<(d.2.2.2.2.1.length:Int) then
      let t2:=(d.2.2.2.2.1.getD (t0.toNat) 0)
      bif 0<=t0&&t0<(d.2.2.2.2.1.length:Int) then
       let t3:=(List.set d.2.2.2.2.1 (t0.toNat) (i64.wrap (t2+1)))
       some (.inl (d.1,d.2.1,(i64.wrap (d.2.2.1+1)),d.2.2.2.1,t3,()))
      else none
     else none
  else none
 else
  some (.inr (.inr (d.2.2.2.1,d.2.2.2.2.1,())))
def TP:=b6 Dt
def wd (d:ct×bB×ct×H):O KY:=
 match TP (d.1,((d.1.length):Int),0,d.2.1,d.2.2.1,()) with
 |none=>none
 |some (.inl z0)=>
  some (z0.1,z0.2.1,z0.2.2.1,())
 |some (.inr z0)=>
  some (true,z0.1,z0.2.1,())
def Nf (d:lS):O (Int×H):=
 some ((i64.wrap (d.2.1+1)),())
def yQ (gF:qB->O (bB×Bool×ct×Int×H)) (d:KL):O (KL⊕(qB⊕H)):=
 bif d.2.2.2.1<d.2.2.1 then
  bif 0<=d.2.2.2.1&&d.2.2.2.1<(d.2.1.length:Int) then
   let t0:=(d.2.1.getD (d.2.2.2.1.toNat) 0)
   match gF (t0,d.2.2.2.2.1,d.2.2.2.2.2.1,d.2.2.2.2.2.2.1,d.2.2.2.2.2.2.2.1,()) with
   |none=>none
   |some ag=>
    let t2:=i64.wrap (d.2.2.2.1+1)
    some (.inl (d.1,d.2.1,d.2.2.1,t2,ag.1,ag.2.1,ag.2.2.1,ag.2.2.2.1,()))
  else none
 else
  some (.inr (.inl (d.1,d.2.2.2.2.1,d.2.2.2.2.2.1,d.2.2.2.2.2.2.1,d.2.2.2.2.2.2.2.1,())))
def JG (gF:qB->O (bB×Bool×ct×Int×H)) (d:KL):O (qB⊕H):=b6 (yQ gF) d
def JF (gF:qB->O (bB×Bool×ct×Int×H)) (d:Int×Bool×bB×Bool×ct×Int×H):O (bB×Bool×ct×Int×H):=
 bif d.2.1 then
  some (d.2.2.1,d.2.2.2.1,d.2.2.2.2.1,d.2.2.2.2.2.1,())
 else
  bif 0<=d.1&&d.1<(d.2.2.2.2.1.length:Int) then
   let t0:=(d.2.2.2.2.1.getD (d.1.toNat) 0)
   bif t0=1 then
    some (d.2.2.1,false,d.2.2.2.2.1,d.2.2.2.2.2.1,())
   else
    bif 0<=d.1&&d.1<(d.2.2.2.2.1.length:Int) then
     let t1:=(List.set d.2.2.2.2.1 (d.1.toNat) 1)
     bif 0<=d.1&&d.1<(d.2.2.1.1.length:Int) then
      let t2:=(d.2.2.1.1.getD (d.1.toNat) (false,(false,(0,(([],([],([],([],([],()))))),())))))
      match JG gF (d.1,t2.2.2.2.1.2.2.1,((t2.2.2.2.1.2.2.1.length):Int),0,d.2.2.1,d.2.2.2.1,t1,d.2.2.2.2.2.1,()) with
      |none=>none
      |some (.inl z3)=>
       bif 0<=z3.1&&z3.1<(z3.2.2.2.1.length:Int) then
        let t4:=(List.set z3.2.2.2.1 (z3.1.toNat) 2)
        match Nf (z3.1,z3.2.2.2.2.1,()) with
        |none=>none
        |some gu=>
         some (z3.2.1,z3.2.2.1,t4,gu.1,())
       else none
      |some (.inr z3)=>
       none
     else none
    else none
  else none
def vI (gF:qB->O (bB×Bool×ct×Int×H)) (d:qB):O (bB×Bool×ct×Int×H):=
 match mt (d.2.1,d.1,()) with
 |none=>none
 |some aa=>
  bif (!(!aa.1)) then
   bif 0<=d.1&&d.1<(d.2.2.2.1.length:Int) then
    let t1:=(d.2.2.2.1.getD (d.1.toNat) 0)
    JF gF (d.1,(decide (t1=2)),d.2.1,d.2.2.1,d.2.2.2.1,d.2.2.2.2.1,())
   else none
  else
   JF gF (d.1,true,d.2.1,d.2.2.1,d.2.2.2.1,d.2.2.2.2.1,())
def sU:Nat->qB->O (bB×Bool×ct×Int×H)
 |0,_=>none
 |n+1,d=>vI (sU n) d
def Ns (d:qB):O (bB×Bool×ct×Int×H):=sU jf d
def DW (d:UD):O (UD⊕(Af⊕H)):=
 bif d.2.2.1<d.2.1 then
  bif 0<=d.2.2.1&&d.2.2.1<(d.1.length:Int) then
   let t0:=(d.1.getD (d.2.2.1.toNat) 0)
   match Ns (t0,d.2.2.2.2.2.1,d.2.2.2.2.1,d.2.2.2.2.2.2.1,d.2.2.2.1,()) with
   |none=>none
   |some ag=>
    some (.inl (d.1,d.2.1,(i64.wrap (d.2.2.1+1)),ag.2.2.2.1,ag.2.1,ag.1,ag.2.2.1,()))
  else none
 else
  some (.inr (.inl (d.2.2.2.1,d.2.2.2.2.1,())))
def J8:=b6 DW
def FO (d:bB×ct×Int×H):O (Bool×Int×H):=
 bif (0<=((d.1.1.length):Int)&&(((d.1.1.length):Int):Int)<=((d.1.1.length):Int)&&((d.1.1.length):Int)*8<=(am:Int)) then
  match J8 (d.2.1,((d.2.1.length):Int),(0:Int),d.2.2.1,true,d.1,(List.replicate (Int.toNat ((d.1.1.length):Int)) (0:Int)),()) with
  |none=>none
  |some (.inl z0)=>
   some (z0.2.1,z0.1,())
  |some (.inr z0)=>
   none
 else none
def FL (d:iM×H):O (Bool×H):=
 bif !d.1.1 then
  bif !d.1.2.1 then
   bif d.1.2.2.1=0 then
    let t0:=(i64.wrap (((d.1.2.2.2.1.1.length):Int)+((d.1.2.2.2.1.2.1.length):Int)))
    let t1:=(i64.wrap (t0+((d.1.2.2.2.1.2.2.1.length):Int)))
    let t2:Int:=((d.1.2.2.2.1.2.2.2.1.length):Int)
    let t3:Int:=((d.1.2.2.2.1.2.2.2.2.1.length):Int)
    let t4:=(i64.wrap ((i64.wrap (t1+t2))+t3))
    some ((decide (t4=0)),())
   else
    some (false,())
  else
   some (false,())
 else
  some (false,())
def y8 (d:b9×Int×Int×bB×ct×H):O ((b9×Int×Int×bB×ct×H)⊕((Bool×H)⊕(bB×ct×H))):=
 bif d.2.2.1<d.2.1 then
  bif 0<=d.2.2.1&&d.2.2.1<(d.1.length:Int) then
   let t0:=(d.1.getD (d.2.2.1.toNat) (false,(false,(0,(([],([],([],([],([],()))))),())))))
   bif t0.1 then
    match wd (t0.2.2.2.1.2.2.1,d.2.2.2.1,d.2.2.2.2.1,()) with
    |none=>none
    |some ag=>
     bif (!(!ag.1)) then
      bif !t0.1 then
       match FL (t0,()) with
       |none=>none
       |some aS=>
        bif !aS.1 then
         some (.inr (.inl (false,())))
        else
         some (.inl (d.1,d.2.1,(i64.wrap (d.2.2.1+1)),ag.2.1,ag.2.2.1,()))
      else
       some (.inl (d.1,d.2.1,(i64.wrap (d.2.2.1+1)),ag.2.1,ag.2.2.1,()))
     else
      some (.inr (.inl (false,())))
   else
    bif !t0.1 then
     match FL (t0,()) with
     |none=>none
     |some ag=>
      bif !ag.1 then
       some (.inr (.inl (false,())))
      else
       some (.inl (d.1,d.2.1,(i64.wrap (d.2.2.1+1)),d.2.2.2.1,d.2.2.2.2.1,()))
    else
     some (.inl (d.1,d.2.1,(i64.wrap (d.2.2.1+1)),d.2.2.2.1,d.2.2.2.2.1,()))
  else none
 else
  some (.inr (.inr (d.2.2.2.1,d.2.2.2.2.1,())))
def Mw:=b6 y8
def DV (d:b9×Int×Int×ct×H):O ((b9×Int×Int×ct×H)⊕((Bool×H)⊕H)):=
 bif d.2.2.1<d.2.1 then
  bif 0<=d.2.2.1&&d.2.2.1<(d.1.length:Int) then
   let t0:=(d.1.getD (d.2.2.1.toNat) (false,(false,(0,(([],([],([],([],([],()))))),())))))
   bif 0<=d.2.2.1&&d.2.2.1<(d.2.2.2.1.length:Int) then
    let t1:=(d.2.2.2.1.getD (d.2.2.1.toNat) 0)
    bif (!(t0.2.2.1=t1)) then
     some (.inr (.inl (false,())))
    else
     some (.inl (d.1,d.2.1,(i64.wrap (d.2.2.1+1)),d.2.2.2.1,()))
   else none
  else none
 else
  some (.inr (.inr (())))
def Mx:=b6 DV
def Mv (d:KY):O (Bool×H):=
 bif d.1 then
  some (false,())
 else
  match Mw (d.2.1.1,((d.2.1.1.length):Int),0,d.2.1,d.2.2.1,()) with
  |none=>none
  |some (.inl z0)=>
   some (z0.1,())
  |some (.inr z0)=>
   match Mx (z0.1.1,((z0.1.1.length):Int),0,z0.2.1,()) with
   |none=>none
   |some (.inl aD)=>
    some (aD.1,())
   |some (.inr aD)=>
    some (true,())
def tI (d:bB×ct×H):O (Bool×H):=
 bif (0<=((d.1.1.length):Int)&&(((d.1.1.length):Int):Int)<=((d.1.1.length):Int)&&((d.1.1.length):Int)*8<=(am:Int)) then
  match wd (d.2.1,d.1,(List.replicate (Int.toNat ((d.1.1.length):Int)) (0:Int)),()) with
  |none=>none
  |some aa=>
   bif !aa.1 then
    some (false,())
   else
    match FO (aa.2.1,d.2.1,0,()) with
    |none=>none
    |some ag=>
     bif (!(!ag.1)) then
      match Ga (aa.2.1,()) with
      |none=>none
      |some aS=>
       Mv ((!decide (ag.2.1=aS.1)),aa.2.1,aa.2.2.1,())
     else
      Mv (true,aa.2.1,aa.2.2.1,())
 else none
def F9 (d:fh):O fh:=
 match mt (d.1,d.2.1,()) with
 |none=>none
 |some aa=>
  bif !aa.1 then
   some (d.1,110,())
  else
   match zD (d.1,()) with
   |none=>none
   |some ag=>
    bif 0<=d.2.1&&d.2.1<(ag.1.length:Int) then
     let t2:=(ag.1.getD (d.2.1.toNat) (false,(false,(0,(([],([],([],([],([],()))))),())))))
     let t3:=i64.wrap (t2.2.2.1+1)
     bif 0<=d.2.1&&d.2.1<(ag.1.length:Int) then
      let t4:=(List.set ag.1 (d.2.1.toNat) ((ag.1.getD (d.2.1.toNat) (false,(false,(0,(([],([],([],([],([],()))))),()))))).1,((ag.1.getD (d.2.1.toNat) (false,(false,(0,(([],([],([],([],([],()))))),()))))).2.1,(t3,(ag.1.getD (d.2.1.toNat) (false,(false,(0,(([],([],([],([],([],()))))),()))))).2.2.2))))
      some ((t4,()),0,())
     else none
    else none
def Dc (d:Uz):O (Uz⊕((Bool×H)⊕(Bool×cQ×aj×cQ×H))):=
 let t0:=(decide (d.2.1<((d.2.2.2.2.1.length):Int)))
 bif t0 then
  bif 0<=d.2.1&&d.2.1<(d.2.2.2.2.1.length:Int) then
   let t1:=(d.2.2.2.2.1.getD (d.2.1.toNat) (0,([],([],(([],([],())),([],([],(0,()))))))))
   match un (d.2.2.2.2.2.1,t1,()) with
   |none=>none
   |some aS=>
    bif (!(aS.2.1=0)) then
     some (.inr (.inl (false,())))
    else
     some (.inl (d.1,(i64.wrap (d.2.1+1)),d.2.2.1,d.2.2.2.1,d.2.2.2.2.1,aS.1,()))
  else none
 else
  some (.inr (.inr (d.1,d.2.2.1,d.2.2.2.1,d.2.2.2.2.2.1,())))
def IZ:=b6 Dc
def Ta (d:(List oX)×Bool×Bool×cQ×aj×bB×H):O (Bool×H):=
 bif d.2.2.1 then
  some (false,())
 else
  match zE (d.1,6,()) with
  |none=>none
  |some aa=>
   match IZ (d.2.1,0,d.2.2.2.1,d.2.2.2.2.1,aa.1,(d.2.2.2.2.2.1,(d.2.2.2.1.2.1,(d.2.2.2.1.2.2.1,()))),()) with
   |none=>none
   |some (.inl aD)=>
    some (aD.1,())
   |some (.inr aD)=>
    match ll ((aD.2.2.2.1.1,(aD.2.1.2.1,(aD.2.1.2.2.1,()))),([],([],())),()) with
    |none=>none
    |some aS=>
     match ll (aD.2.1,([],([],())),()) with
     |none=>none
     |some bP=>
      bif aD.1 then
       bif aS.1=0 then
        bif bP.1=0 then
         match wy (aS.2.1,aD.2.2.1,()) with
         |none=>none
         |some dz=>
          bif dz.1 then
           match wy (bP.2.1,aD.2.2.1,()) with
           |none=>none
           |some gu=>
            bif gu.1 then
             match wA ((aD.2.2.2.1.1,(aD.2.1.2.1,(aD.2.1.2.2.1,()))),()) with
             |none=>none
             |some iT=>
              bif iT.1 then
               match wA (aD.2.2.2.1,()) with
               |none=>none
               |some SQ=>
                bif SQ.1 then
                 match tI (aD.2.2.2.1.1,([aD.2.1.2.1,aD.2.2.2.1.2.1]:ct),()) with
                 |none=>none
                 |some Dw=>
                  some (Dw.1,())
                else
                 some (false,())
              else
               some (false,())
            else
             some (false,())
          else
           some (false,())
        else
         some (false,())
       else
        some (false,())
      else
       some (false,())
def nl (d:fg×(List oX)×H):O (Bool×H):=
 match M7 (()) with
 |none=>none
 |some aa=>
  match FR (d.1,()) with
  |none=>none
  |some ag=>
   match ll (ag.1,([],([],())),()) with
   |none=>none
   |some aS=>
    match F9 (ag.1.1,ag.1.2.1,()) with
    |none=>none
    |some bP=>
     bif (!(!decide (aS.1=0))) then
      Ta (d.2.1,aa.1,(!decide (bP.2.1=0)),ag.1,aS.2.1,bP.1,())
     else
      Ta (d.2.1,aa.1,true,ag.1,aS.2.1,bP.1,())
end D
