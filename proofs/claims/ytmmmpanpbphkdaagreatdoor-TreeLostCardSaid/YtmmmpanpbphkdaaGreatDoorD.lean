import Derived.Test.YtmmmpanpbphkdaaGreatDoorDa
set_option linter.unusedVariables false
open Go Go.X
open Go.IntKind (i64)
namespace D
def Hk:=b4 xu
def BQ (d:eP):N (eP⊕((aq×G)⊕G)):=
 bif decide (d.2.2.1<d.2.1) then
  match Hk (d.1,d.2.1,d.2.2.1,d.2.2.1,d.2.2.2.1,()) with
  |none=>none
  |some (.inl z0)=>
   let t1:=i64.wrap (z0.2.2.1+1)
   some (.inl (z0.1,z0.2.1,t1,z0.2.2.2.1,()))
  |some (.inr z0)=>
   none
 else
  some (.inr (.inl (d.2.2.2.1,())))
def PK:=b4 BQ
def Ha (d:l1):N (aq×G):=
 match PK (d.1,d.2.1,(i64.wrap (d.1+1)),d.2.2.1,()) with
 |none=>none
 |some (.inl z0)=>
  some (z0.1,())
 |some (.inr z0)=>
  none
def BA (d:l0):N (eP⊕((aq×G)⊕(aq×G))):=
 bif (decide (0<=(i64.wrap (d.2.1+d.2.2.1)))&&decide (((i64.wrap (d.2.1+d.2.2.1)):Int)<(d.2.2.2.2.1.length:Int))) then
  let t0:=(d.2.2.2.2.1.getD (Int.toNat (i64.wrap (d.2.1+d.2.2.1))) ([],([],())))
  bif (decide (0<=(i64.wrap (d.2.1+d.2.2.2.1)))&&decide (((i64.wrap (d.2.1+d.2.2.2.1)):Int)<(d.2.2.2.2.1.length:Int))) then
   let t1:=(d.2.2.2.2.1.getD (Int.toNat (i64.wrap (d.2.1+d.2.2.2.1))) ([],([],())))
   match k7 (t0,t1,()) with
   |none=>none
   |some aJ=>
    bif (!(decide (aJ.1<0))) then
     some (.inr (.inr (d.2.2.2.2.1,())))
    else
     bif (decide (0<=(i64.wrap (d.2.1+d.2.2.2.1)))&&decide (((i64.wrap (d.2.1+d.2.2.2.1)):Int)<(d.2.2.2.2.1.length:Int))) then
      let t3:=(d.2.2.2.2.1.getD (Int.toNat (i64.wrap (d.2.1+d.2.2.2.1))) ([],([],())))
      bif (decide (0<=(i64.wrap (d.2.1+d.2.2.1)))&&decide (((i64.wrap (d.2.1+d.2.2.1)):Int)<(d.2.2.2.2.1.length:Int))) then
       let t4:=(d.2.2.2.2.1.getD (Int.toNat (i64.wrap (d.2.1+d.2.2.1))) ([],([],())))
       bif (decide (0<=(i64.wrap (d.2.1+d.2.2.1)))&&decide (((i64.wrap (d.2.1+d.2.2.1)):Int)<(d.2.2.2.2.1.length:Int))) then
        let t5:=(List.set d.2.2.2.2.1 (Int.toNat (i64.wrap (d.2.1+d.2.2.1))) t3)
        bif (decide (0<=(i64.wrap (d.2.1+d.2.2.2.1)))&&decide (((i64.wrap (d.2.1+d.2.2.2.1)):Int)<(t5.length:Int))) then
         let t6:=(List.set t5 (Int.toNat (i64.wrap (d.2.1+d.2.2.2.1))) t4)
         some (.inl (d.1,d.2.1,d.2.2.2.1,t6,()))
        else none
       else none
      else none
     else none
  else none
 else none
def BB (d:Un):N (eP⊕((aq×G)⊕(aq×G))):=
 bif d.2.2.2.2.1 then
  let t0:=i64.wrap (d.2.2.2.1+1)
  BA (d.1,d.2.1,d.2.2.1,t0,d.2.2.2.2.2.1,())
 else
  BA (d.1,d.2.1,d.2.2.1,d.2.2.2.1,d.2.2.2.2.2.1,())
def u3 (d:eP):N (eP⊕((aq×G)⊕(aq×G))):=
 let t0:=(i64.wrap ((i64.wrap (2*d.2.2.1))+1))
 bif decide (t0>=d.1) then
  some (.inr (.inl (d.2.2.2.1,())))
 else
  let t1:=(decide (((i64.wrap (t0+1)):Int)<d.1))
  bif t1 then
   bif (decide (0<=(i64.wrap (d.2.1+t0)))&&decide (((i64.wrap (d.2.1+t0)):Int)<(d.2.2.2.1.length:Int))) then
    let t2:=(d.2.2.2.1.getD (Int.toNat (i64.wrap (d.2.1+t0))) ([],([],())))
    let t3:=(i64.wrap ((i64.wrap (d.2.1+t0))+1))
    bif decide (0<=t3)&&decide (t3<(d.2.2.2.1.length:Int)) then
     let t4:=(d.2.2.2.1.getD (t3.toNat) ([],([],())))
     match k7 (t2,t4,()) with
     |none=>none
     |some fX=>
      BB (d.1,d.2.1,d.2.2.1,t0,(decide (fX.1<0)),d.2.2.2.1,())
    else none
   else none
  else
   BB (d.1,d.2.1,d.2.2.1,t0,false,d.2.2.2.1,())
def RL:=b4 u3
def BT (d:eP):N (aq×G):=
 match RL (d.2.1,d.2.2.1,d.1,d.2.2.2.1,()) with
 |none=>none
 |some (.inl z0)=>
  some (z0.1,())
 |some (.inr z0)=>
  some (z0.1,())
def BV (d:l0):N (l0⊕(eP⊕G)):=
 bif decide (d.2.2.2.1>=0) then
  match BT (d.2.2.2.1,d.2.2.1,d.1,d.2.2.2.2.1,()) with
  |none=>none
  |some Q=>
   let t1:=i64.wrap (d.2.2.2.1-1)
   some (.inl (d.1,d.2.1,d.2.2.1,t1,Q.1,()))
 else
  some (.inr (.inl (d.1,d.2.1,d.2.2.1,d.2.2.2.2.1,())))
def RI:=b4 BV
def BW (d:eP):N (eP⊕((aq×G)⊕G)):=
 bif decide (d.2.2.1>=0) then
  bif (decide (0<=(i64.wrap (d.1+d.2.2.1)))&&decide (((i64.wrap (d.1+d.2.2.1)):Int)<(d.2.2.2.1.length:Int))) then
   let t0:=(d.2.2.2.1.getD (Int.toNat (i64.wrap (d.1+d.2.2.1))) ([],([],())))
   bif decide (0<=d.1)&&decide (d.1<(d.2.2.2.1.length:Int)) then
    let t1:=(d.2.2.2.1.getD (d.1.toNat) ([],([],())))
    bif decide (0<=d.1)&&decide (d.1<(d.2.2.2.1.length:Int)) then
     bif (decide (0<=(i64.wrap (d.1+d.2.2.1)))&&decide (((i64.wrap (d.1+d.2.2.1)):Int)<(List.length (List.set d.2.2.2.1 (d.1.toNat) t0):Int))) then
      let t2:=(List.set (List.set d.2.2.2.1 (d.1.toNat) t0) (Int.toNat (i64.wrap (d.1+d.2.2.1))) t1)
      match BT (d.2.1,d.2.2.1,d.1,t2,()) with
      |none=>none
      |some bR=>
       some (.inl (d.1,d.2.1,(i64.wrap (d.2.2.1-1)),bR.1,()))
     else none
    else none
   else none
  else none
 else
  some (.inr (.inl (d.2.2.2.1,())))
def RJ:=b4 BW
def HG (d:l1):N (aq×G):=
 let t0:=(i64.wrap ((i64.wrap (d.2.1-d.1))-1))
 let t1:=i64.wrap (Int.tdiv t0 2)
 match RI (d.1,0,(i64.wrap (d.2.1-d.1)),t1,d.2.2.1,()) with
 |none=>none
 |some (.inl z2)=>
  let t3:=i64.wrap (z2.2.2.1-1)
  match RJ (z2.1,z2.2.1,t3,z2.2.2.2.1,()) with
  |none=>none
  |some (.inl z4)=>
   some (z4.1,())
  |some (.inr z4)=>
   none
 |some (.inr z2)=>
  none
def xJ (d:Int×Int×aq×Int×G):N (Int×Int×aq×Int×G):=
 bif decide (0<=d.2.1)&&decide (d.2.1<(d.2.2.1.length:Int)) then
  let t0:=(d.2.2.1.getD (d.2.1.toNat) ([],([],())))
  bif decide (0<=d.1)&&decide (d.1<(d.2.2.1.length:Int)) then
   let t1:=(d.2.2.1.getD (d.1.toNat) ([],([],())))
   match k7 (t0,t1,()) with
   |none=>none
   |some aJ=>
    bif decide (aJ.1<0) then
     let t3:=i64.wrap (d.2.2.2.1+1)
     some (d.2.1,d.1,d.2.2.1,t3,())
    else
     some (d.1,d.2.1,d.2.2.1,d.2.2.2.1,())
  else none
 else none
def BZ (d:Int×Int×Int×aq×Int×G):N KD:=
 match xJ (d.1,d.2.1,d.2.2.2.1,d.2.2.2.2.1,()) with
 |none=>none
 |some Q=>
  match xJ (Q.2.1,d.2.2.1,Q.2.2.1,Q.2.2.2.1,()) with
  |none=>none
  |some ah=>
   match xJ (Q.1,ah.1,ah.2.2.1,ah.2.2.2.1,()) with
   |none=>none
   |some aJ=>
    some (aJ.2.1,aJ.2.2.1,aJ.2.2.2.1,())
def xz (d:KD):N KD:=
 match BZ ((i64.wrap (d.1-1)),d.1,(i64.wrap (d.1+1)),d.2.1,d.2.2.1,()) with
 |none=>none
 |some Q=>
  some (Q.1,Q.2.1,Q.2.2.1,())
def G7 (d:Int×Int×Int×aq×Int×G):N l1:=
 match BZ (d.1,d.2.1,d.2.2.1,d.2.2.2.1,d.2.2.2.2.1,()) with
 |none=>none
 |some Q=>
  bif decide (Q.2.2.1=0) then
   some (Q.1,1,Q.2.1,())
  else
   bif decide (Q.2.2.1=12) then
    some (Q.1,2,Q.2.1,())
   else
    some (Q.1,0,Q.2.1,())
def Hr (d:l1):N l1:=
 let t0:=(i64.wrap (Int.tdiv (i64.wrap (d.2.1-d.1)) 4))
 let t1:=(i64.wrap (d.1+(i64.wrap (t0*1))))
 let t2:=(i64.wrap (Int.tdiv (i64.wrap (d.2.1-d.1)) 4))
 let t3:=(i64.wrap (d.1+(i64.wrap (t2*2))))
 let t4:=(i64.wrap (Int.tdiv (i64.wrap (d.2.1-d.1)) 4))
 let t5:=(i64.wrap (d.1+(i64.wrap (t4*3))))
 let t6:=(decide (((i64.wrap (d.2.1-d.1)):Int)>=8))
 bif t6 then
  let t7:=(decide (((i64.wrap (d.2.1-d.1)):Int)>=50))
  bif t7 then
   match xz (t1,d.2.2.1,0,()) with
   |none=>none
   |some yT=>
    match xz (t3,yT.2.1,yT.2.2.1,()) with
    |none=>none
    |some Sw=>
     match xz (t5,Sw.2.1,Sw.2.2.1,()) with
     |none=>none
     |some Su=>
      G7 (yT.1,Sw.1,Su.1,Su.2.1,Su.2.2.1,())
  else
   G7 (t1,t3,t5,d.2.2.1,0,())
 else
  bif decide ((0:Int)=0) then
   some (t3,1,d.2.2.1,())
  else
   let t7:=decide ((0:Int)=12)
   bif t7 then
    some (t3,2,d.2.2.1,())
   else
    some (t3,0,d.2.2.1,())
def Bw (d:l1):N (l1⊕((aq×G)⊕G)):=
 bif decide (d.1<d.2.1) then
  bif decide (0<=d.2.1)&&decide (d.2.1<(d.2.2.1.length:Int)) then
   let t0:=(d.2.2.1.getD (d.2.1.toNat) ([],([],())))
   bif decide (0<=d.1)&&decide (d.1<(d.2.2.1.length:Int)) then
    let t1:=(d.2.2.1.getD (d.1.toNat) ([],([],())))
    bif decide (0<=d.1)&&decide (d.1<(d.2.2.1.length:Int)) then
     bif (decide (0<=d.2.1)&&decide (d.2.1<(List.length (List.set d.2.2.1 (d.1.toNat) t0):Int))) then
      let t2:=(List.set (List.set d.2.2.1 (d.1.toNat) t0) (d.2.1.toNat) t1)
      some (.inl ((i64.wrap (d.1+1)),(i64.wrap (d.2.1-1)),t2,()))
     else none
    else none
   else none
  else none
 else
  some (.inr (.inl (d.2.2.1,())))
def Qg:=b4 Bw
def BF (d:l1):N (aq×G):=
 match Qg (d.1,(i64.wrap (d.2.1-1)),d.2.2.1,()) with
 |none=>none
 |some (.inl z0)=>
  some (z0.1,())
 |some (.inr z0)=>
  none
def Bm (d:l0):N (l0⊕(l0⊕G)):=
 bif decide (d.2.2.1<d.2.1) then
  bif decide (0<=d.2.2.1)&&decide (d.2.2.1<(d.2.2.2.2.1.length:Int)) then
   let t0:=(d.2.2.2.2.1.getD (d.2.2.1.toNat) ([],([],())))
   bif (decide (0<=(i64.wrap (d.2.2.1-1)))&&decide (((i64.wrap (d.2.2.1-1)):Int)<(d.2.2.2.2.1.length:Int))) then
    let t1:=(d.2.2.2.2.1.getD (Int.toNat (i64.wrap (d.2.2.1-1))) ([],([],())))
    match k7 (t0,t1,()) with
    |none=>none
    |some aJ=>
     bif (!(decide (aJ.1<0))) then
      some (.inl (d.1,d.2.1,(i64.wrap (d.2.2.1+1)),d.2.2.2.1,d.2.2.2.2.1,()))
     else
      some (.inr (.inl (d.1,d.2.1,d.2.2.1,d.2.2.2.1,d.2.2.2.2.1,())))
   else none
  else none
 else
  some (.inr (.inl (d.1,d.2.1,d.2.2.1,d.2.2.2.1,d.2.2.2.2.1,())))
def G2:=b4 Bm
def Bn (d:wQ):N (wQ⊕(l0⊕G)):=
 let t0:=decide (d.2.2.2.2.1>=1)
 bif t0 then
  bif decide (0<=d.2.2.2.2.1)&&decide (d.2.2.2.2.1<(d.2.2.2.2.2.1.length:Int)) then
   let t1:=(d.2.2.2.2.2.1.getD (d.2.2.2.2.1.toNat) ([],([],())))
   let t2:=i64.wrap (d.2.2.2.2.1-1)
   bif decide (0<=t2)&&decide (t2<(d.2.2.2.2.2.1.length:Int)) then
    let t3:=(d.2.2.2.2.2.1.getD (t2.toNat) ([],([],())))
    match k7 (t1,t3,()) with
    |none=>none
    |some cB=>
     bif (!(decide (cB.1<0))) then
      some (.inr (.inl (d.1,d.2.1,d.2.2.1,d.2.2.2.1,d.2.2.2.2.2.1,())))
     else
      let t5:=i64.wrap (d.2.2.2.2.1-1)
      let t6:=i64.wrap (d.2.2.2.2.1-1)
      bif decide (0<=t6)&&decide (t6<(d.2.2.2.2.2.1.length:Int)) then
       let t7:=(d.2.2.2.2.2.1.getD (t6.toNat) ([],([],())))
       bif decide (0<=d.2.2.2.2.1)&&decide (d.2.2.2.2.1<(d.2.2.2.2.2.1.length:Int)) then
        let t8:=(d.2.2.2.2.2.1.getD (d.2.2.2.2.1.toNat) ([],([],())))
        bif decide (0<=d.2.2.2.2.1)&&decide (d.2.2.2.2.1<(d.2.2.2.2.2.1.length:Int)) then
         let t9:=(List.set d.2.2.2.2.2.1 (d.2.2.2.2.1.toNat) t7)
         bif decide (0<=t5)&&decide (t5<(t9.length:Int)) then
          let t10:=i64.wrap (d.2.2.2.2.1-1)
          some (.inl (d.1,d.2.1,d.2.2.1,d.2.2.2.1,t10,(List.set t9 (t5.toNat) t8),()))
         else none
        else none
       else none
      else none
   else none
  else none
 else
  some (.inr (.inl (d.1,d.2.1,d.2.2.1,d.2.2.2.1,d.2.2.2.2.2.1,())))
def G3:=b4 Bn
def Bo (d:wQ):N (wQ⊕(l0⊕G)):=
 bif decide (d.2.2.2.2.1<d.2.1) then
  bif decide (0<=d.2.2.2.2.1)&&decide (d.2.2.2.2.1<(d.2.2.2.2.2.1.length:Int)) then
   let t0:=(d.2.2.2.2.2.1.getD (d.2.2.2.2.1.toNat) ([],([],())))
   let t1:=i64.wrap (d.2.2.2.2.1-1)
   bif decide (0<=t1)&&decide (t1<(d.2.2.2.2.2.1.length:Int)) then
    let t2:=(d.2.2.2.2.2.1.getD (t1.toNat) ([],([],())))
    match k7 (t0,t2,()) with
    |none=>none
    |some bR=>
     bif (!(decide (bR.1<0))) then
      some (.inr (.inl (d.1,d.2.1,d.2.2.1,d.2.2.2.1,d.2.2.2.2.2.1,())))
     else
      let t4:=i64.wrap (d.2.2.2.2.1-1)
      let t5:=i64.wrap (d.2.2.2.2.1-1)
      bif decide (0<=t5)&&decide (t5<(d.2.2.2.2.2.1.length:Int)) then
       let t6:=(d.2.2.2.2.2.1.getD (t5.toNat) ([],([],())))
       bif decide (0<=d.2.2.2.2.1)&&decide (d.2.2.2.2.1<(d.2.2.2.2.2.1.length:Int)) then
        let t7:=(d.2.2.2.2.2.1.getD (d.2.2.2.2.1.toNat) ([],([],())))
        bif decide (0<=d.2.2.2.2.1)&&decide (d.2.2.2.2.1<(d.2.2.2.2.2.1.length:Int)) then
         let t8:=(List.set d.2.2.2.2.2.1 (d.2.2.2.2.1.toNat) t6)
         bif decide (0<=t4)&&decide (t4<(t8.length:Int)) then
          let t9:=i64.wrap (d.2.2.2.2.1+1)
          some (.inl (d.1,d.2.1,d.2.2.1,d.2.2.2.1,t9,(List.set t8 (t4.toNat) t7),()))
         else none
        else none
       else none
      else none
   else none
  else none
 else
  some (.inr (.inl (d.1,d.2.1,d.2.2.1,d.2.2.2.1,d.2.2.2.2.2.1,())))
def G4:=b4 Bo
def Bt (d:l0):N (l0⊕((Bool×aq×G)⊕(aq×G))):=
 let t0:=(decide (((i64.wrap (d.2.1-d.2.2.1)):Int)>=2))
 bif t0 then
  match G4 (d.1,d.2.1,d.2.2.1,d.2.2.2.1,(i64.wrap (d.2.2.1+1)),d.2.2.2.2.1,()) with
  |none=>none
  |some (.inl aG)=>
   let t2:=i64.wrap (aG.2.2.2.1+1)
   some (.inl (aG.1,aG.2.1,aG.2.2.1,t2,aG.2.2.2.2.1,()))
  |some (.inr aG)=>
   none
 else
  let t1:=i64.wrap (d.2.2.2.1+1)
  some (.inl (d.1,d.2.1,d.2.2.1,t1,d.2.2.2.2.1,()))
def Bu (d:l0):N (l0⊕((Bool×aq×G)⊕(aq×G))):=
 bif decide (d.2.2.2.1<5) then
  match G2 (d.1,d.2.1,d.2.2.1,d.2.2.2.1,d.2.2.2.2.1,()) with
  |none=>none
  |some (.inl z0)=>
   bif decide (z0.2.2.1=z0.2.1) then
    some (.inr (.inl (true,z0.2.2.2.2.1,())))
   else
    let t1:=(decide (((i64.wrap (z0.2.1-z0.1)):Int)<50))
    bif t1 then
     some (.inr (.inl (false,z0.2.2.2.2.1,())))
    else
     let t2:=i64.wrap (z0.2.2.1-1)
     let t3:=i64.wrap (z0.2.2.1-1)
     bif decide (0<=t3)&&decide (t3<(z0.2.2.2.2.1.length:Int)) then
      let t4:=(z0.2.2.2.2.1.getD (t3.toNat) ([],([],())))
      bif decide (0<=z0.2.2.1)&&decide (z0.2.2.1<(z0.2.2.2.2.1.length:Int)) then
       let t5:=(z0.2.2.2.2.1.getD (z0.2.2.1.toNat) ([],([],())))
       bif decide (0<=z0.2.2.1)&&decide (z0.2.2.1<(z0.2.2.2.2.1.length:Int)) then
        let t6:=(List.set z0.2.2.2.2.1 (z0.2.2.1.toNat) t4)
        bif decide (0<=t2)&&decide (t2<(t6.length:Int)) then
         let t7:=(decide (((i64.wrap (z0.2.2.1-z0.1)):Int)>=2))
         bif t7 then
          let t8:=i64.wrap (z0.2.2.1-1)
          match G3 (z0.1,z0.2.1,z0.2.2.1,z0.2.2.2.1,t8,(List.set t6 (t2.toNat) t5),()) with
          |none=>none
          |some (.inl z9)=>
           Bt (z9.1,z9.2.1,z9.2.2.1,z9.2.2.2.1,z9.2.2.2.2.1,())
          |some (.inr z9)=>
           none
         else
          Bt (z0.1,z0.2.1,z0.2.2.1,z0.2.2.2.1,(List.set t6 (t2.toNat) t5),())
        else none
       else none
      else none
     else none
  |some (.inr z0)=>
   none
 else
  some (.inr (.inr (d.2.2.2.2.1,())))
def Pv:=b4 Bu
def Bq (d:l1):N (Bool×aq×G):=
 match Pv (d.1,d.2.1,(i64.wrap (d.1+1)),0,d.2.2.1,()) with
 |none=>none
 |some (.inl z0)=>
  some (z0.1,z0.2.1,())
 |some (.inr z0)=>
  some (false,z0.1,())
def Hg (d:eP):N (eP⊕(eP⊕G)):=
 bif decide (d.2.1<=d.2.2.1) then
  bif decide (0<=d.1)&&decide (d.1<(d.2.2.2.1.length:Int)) then
   let t0:=(d.2.2.2.1.getD (d.1.toNat) ([],([],())))
   bif decide (0<=d.2.1)&&decide (d.2.1<(d.2.2.2.1.length:Int)) then
    let t1:=(d.2.2.2.1.getD (d.2.1.toNat) ([],([],())))
    match k7 (t0,t1,()) with
    |none=>none
    |some aJ=>
     bif (!(decide (aJ.1<0))) then
      some (.inl (d.1,(i64.wrap (d.2.1+1)),d.2.2.1,d.2.2.2.1,()))
     else
      some (.inr (.inl (d.1,d.2.1,d.2.2.1,d.2.2.2.1,())))
   else none
  else none
 else
  some (.inr (.inl (d.1,d.2.1,d.2.2.1,d.2.2.2.1,())))
def PF:=b4 Hg
def Hh (d:eP):N (eP⊕(eP⊕G)):=
 bif decide (d.2.1<=d.2.2.1) then
  bif decide (0<=d.1)&&decide (d.1<(d.2.2.2.1.length:Int)) then
   let t0:=(d.2.2.2.1.getD (d.1.toNat) ([],([],())))
   bif decide (0<=d.2.2.1)&&decide (d.2.2.1<(d.2.2.2.1.length:Int)) then
    let t1:=(d.2.2.2.1.getD (d.2.2.1.toNat) ([],([],())))
    match k7 (t0,t1,()) with
    |none=>none
    |some aJ=>
     bif decide (aJ.1<0) then
      some (.inl (d.1,d.2.1,(i64.wrap (d.2.2.1-1)),d.2.2.2.1,()))
     else
      some (.inr (.inl (d.1,d.2.1,d.2.2.1,d.2.2.2.1,())))
   else none
  else none
 else
  some (.inr (.inl (d.1,d.2.1,d.2.2.1,d.2.2.2.1,())))
def PG:=b4 Hh
def Hf (d:eP):N (eP⊕((Int×aq×G)⊕G)):=
 match PF (d.1,d.2.1,d.2.2.1,d.2.2.2.1,()) with
 |none=>none
 |some (.inl z0)=>
  match PG (z0.1,z0.2.1,z0.2.2.1,z0.2.2.2.1,()) with
  |none=>none
  |some (.inl aG)=>
   bif decide (aG.2.1>aG.2.2.1) then
    some (.inr (.inl (aG.2.1,aG.2.2.2.1,())))
   else
    bif decide (0<=aG.2.2.1)&&decide (aG.2.2.1<(aG.2.2.2.1.length:Int)) then
     let t2:=(aG.2.2.2.1.getD (aG.2.2.1.toNat) ([],([],())))
     bif decide (0<=aG.2.1)&&decide (aG.2.1<(aG.2.2.2.1.length:Int)) then
      let t3:=(aG.2.2.2.1.getD (aG.2.1.toNat) ([],([],())))
      bif decide (0<=aG.2.1)&&decide (aG.2.1<(aG.2.2.2.1.length:Int)) then
       let t4:=(List.set aG.2.2.2.1 (aG.2.1.toNat) t2)
       bif decide (0<=aG.2.2.1)&&decide (aG.2.2.1<(t4.length:Int)) then
        let t5:=i64.wrap (aG.2.2.1-1)
        some (.inl (aG.1,(i64.wrap (aG.2.1+1)),t5,(List.set t4 (aG.2.2.1.toNat) t3),()))
       else none
      else none
     else none
    else none
  |some (.inr aG)=>
   none
 |some (.inr z0)=>
  none
def Hi:=b4 Hf
def Bz (d:eP):N (Int×aq×G):=
 bif decide (0<=d.2.2.1)&&decide (d.2.2.1<(d.2.2.2.1.length:Int)) then
  let t0:=(d.2.2.2.1.getD (d.2.2.1.toNat) ([],([],())))
  bif decide (0<=d.1)&&decide (d.1<(d.2.2.2.1.length:Int)) then
   let t1:=(d.2.2.2.1.getD (d.1.toNat) ([],([],())))
   bif decide (0<=d.1)&&decide (d.1<(d.2.2.2.1.length:Int)) then
    bif (decide (0<=d.2.2.1)&&decide (d.2.2.1<(List.length (List.set d.2.2.2.1 (d.1.toNat) t0):Int))) then
     let t2:=(List.set (List.set d.2.2.2.1 (d.1.toNat) t0) (d.2.2.1.toNat) t1)
     match Hi (d.1,(i64.wrap (d.1+1)),(i64.wrap (d.2.1-1)),t2,()) with
     |none=>none
     |some (.inl z3)=>
      some (z3.1,z3.2.1,())
     |some (.inr z3)=>
      none
    else none
   else none
  else none
 else none
def HA (d:eP):N (eP⊕(eP⊕G)):=
 bif decide (d.2.1<=d.2.2.1) then
  bif decide (0<=d.2.1)&&decide (d.2.1<(d.2.2.2.1.length:Int)) then
   let t0:=(d.2.2.2.1.getD (d.2.1.toNat) ([],([],())))
   bif decide (0<=d.1)&&decide (d.1<(d.2.2.2.1.length:Int)) then
    let t1:=(d.2.2.2.1.getD (d.1.toNat) ([],([],())))
    match k7 (t0,t1,()) with
    |none=>none
    |some aJ=>
     bif decide (aJ.1<0) then
      some (.inl (d.1,(i64.wrap (d.2.1+1)),d.2.2.1,d.2.2.2.1,()))
     else
      some (.inr (.inl (d.1,d.2.1,d.2.2.1,d.2.2.2.1,())))
   else none
  else none
 else
  some (.inr (.inl (d.1,d.2.1,d.2.2.1,d.2.2.2.1,())))
def RT:=b4 HA
def HB (d:eP):N (eP⊕(eP⊕G)):=
 bif decide (d.2.1<=d.2.2.1) then
  bif decide (0<=d.2.2.1)&&decide (d.2.2.1<(d.2.2.2.1.length:Int)) then
   let t0:=(d.2.2.2.1.getD (d.2.2.1.toNat) ([],([],())))
   bif decide (0<=d.1)&&decide (d.1<(d.2.2.2.1.length:Int)) then
    let t1:=(d.2.2.2.1.getD (d.1.toNat) ([],([],())))
    match k7 (t0,t1,()) with
    |none=>none
    |some aJ=>
     bif (!(decide (aJ.1<0))) then
      some (.inl (d.1,d.2.1,(i64.wrap (d.2.2.1-1)),d.2.2.2.1,()))
     else
      some (.inr (.inl (d.1,d.2.1,d.2.2.1,d.2.2.2.1,())))
   else none
  else none
 else
  some (.inr (.inl (d.1,d.2.1,d.2.2.1,d.2.2.2.1,())))
def RU:=b4 HB
def HD (d:eP):N (eP⊕(eP⊕G)):=
 bif decide (d.2.1<=d.2.2.1) then
  bif decide (0<=d.2.1)&&decide (d.2.1<(d.2.2.2.1.length:Int)) then
   let t0:=(d.2.2.2.1.getD (d.2.1.toNat) ([],([],())))
   bif decide (0<=d.1)&&decide (d.1<(d.2.2.2.1.length:Int)) then
    let t1:=(d.2.2.2.1.getD (d.1.toNat) ([],([],())))
    match k7 (t0,t1,()) with
    |none=>none
    |some aJ=>
     bif decide (aJ.1<0) then
      some (.inl (d.1,(i64.wrap (d.2.1+1)),d.2.2.1,d.2.2.2.1,()))
     else
      some (.inr (.inl (d.1,d.2.1,d.2.2.1,d.2.2.2.1,())))
   else none
  else none
 else
  some (.inr (.inl (d.1,d.2.1,d.2.2.1,d.2.2.2.1,())))
def RV:=b4 HD
def Hm (d:eP):N (eP⊕(eP⊕G)):=
 bif decide (d.2.1<=d.2.2.1) then
  bif decide (0<=d.2.2.1)&&decide (d.2.2.1<(d.2.2.2.1.length:Int)) then
   let t0:=(d.2.2.2.1.getD (d.2.2.1.toNat) ([],([],())))
   bif decide (0<=d.1)&&decide (d.1<(d.2.2.2.1.length:Int)) then
    let t1:=(d.2.2.2.1.getD (d.1.toNat) ([],([],())))
    match k7 (t0,t1,()) with
    |none=>none
    |some aJ=>
     bif (!(decide (aJ.1<0))) then
      some (.inl (d.1,d.2.1,(i64.wrap (d.2.2.1-1)),d.2.2.2.1,()))
     else
      some (.inr (.inl (d.1,d.2.1,d.2.2.1,d.2.2.2.1,())))
   else none
  else none
 else
  some (.inr (.inl (d.1,d.2.1,d.2.2.1,d.2.2.2.1,())))
def RW:=b4 Hm
def HC (d:eP):N (eP⊕(l1⊕G)):=
 match RV (d.1,d.2.1,d.2.2.1,d.2.2.2.1,()) with
 |none=>none
 |some (.inl z0)=>
  match RW (z0.1,z0.2.1,z0.2.2.1,z0.2.2.2.1,()) with
  |none=>none
  |some (.inl aG)=>
   bif decide (aG.2.1>aG.2.2.1) then
    some (.inr (.inl (aG.1,aG.2.2.1,aG.2.2.2.1,())))
   else
    bif decide (0<=aG.2.2.1)&&decide (aG.2.2.1<(aG.2.2.2.1.length:Int)) then
     let t2:=(aG.2.2.2.1.getD (aG.2.2.1.toNat) ([],([],())))
     bif decide (0<=aG.2.1)&&decide (aG.2.1<(aG.2.2.2.1.length:Int)) then
      let t3:=(aG.2.2.2.1.getD (aG.2.1.toNat) ([],([],())))
      bif decide (0<=aG.2.1)&&decide (aG.2.1<(aG.2.2.2.1.length:Int)) then
       let t4:=(List.set aG.2.2.2.1 (aG.2.1.toNat) t2)
       bif decide (0<=aG.2.2.1)&&decide (aG.2.2.1<(t4.length:Int)) then
        let t5:=i64.wrap (aG.2.2.1-1)
        some (.inl (aG.1,(i64.wrap (aG.2.1+1)),t5,(List.set t4 (aG.2.2.1.toNat) t3),()))
       else none
      else none
     else none
    else none
  |some (.inr aG)=>
   none
 |some (.inr z0)=>
  none
def Hn:=b4 HC
def BR (d:eP):N (Int×Bool×aq×G):=
 bif decide (0<=d.2.2.1)&&decide (d.2.2.1<(d.2.2.2.1.length:Int)) then
  let t0:=(d.2.2.2.1.getD (d.2.2.1.toNat) ([],([],())))
  bif decide (0<=d.1)&&decide (d.1<(d.2.2.2.1.length:Int)) then
   let t1:=(d.2.2.2.1.getD (d.1.toNat) ([],([],())))
   bif decide (0<=d.1)&&decide (d.1<(d.2.2.2.1.length:Int)) then
    bif (decide (0<=d.2.2.1)&&decide (d.2.2.1<(List.length (List.set d.2.2.2.1 (d.1.toNat) t0):Int))) then
     let t2:=(List.set (List.set d.2.2.2.1 (d.1.toNat) t0) (d.2.2.1.toNat) t1)
     match RT (d.1,(i64.wrap (d.1+1)),(i64.wrap (d.2.1-1)),t2,()) with
     |none=>none
     |some (.inl z3)=>
      match RU (z3.1,z3.2.1,z3.2.2.1,z3.2.2.2.1,()) with
      |none=>none
      |some (.inl z4)=>
       bif decide (z4.2.1>z4.2.2.1) then
        bif decide (0<=z4.1)&&decide (z4.1<(z4.2.2.2.1.length:Int)) then
         let t5:=(z4.2.2.2.1.getD (z4.1.toNat) ([],([],())))
         bif decide (0<=z4.2.2.1)&&decide (z4.2.2.1<(z4.2.2.2.1.length:Int)) then
          let t6:=(z4.2.2.2.1.getD (z4.2.2.1.toNat) ([],([],())))
          bif decide (0<=z4.2.2.1)&&decide (z4.2.2.1<(z4.2.2.2.1.length:Int)) then
           let t7:=(List.set z4.2.2.2.1 (z4.2.2.1.toNat) t5)
           bif decide (0<=z4.1)&&decide (z4.1<(t7.length:Int)) then
            some (z4.2.2.1,true,(List.set t7 (z4.1.toNat) t6),())
           else none
          else none
         else none
        else none
       else
        bif decide (0<=z4.2.2.1)&&decide (z4.2.2.1<(z4.2.2.2.1.length:Int)) then
         let t5:=(z4.2.2.2.1.getD (z4.2.2.1.toNat) ([],([],())))
         bif decide (0<=z4.2.1)&&decide (z4.2.1<(z4.2.2.2.1.length:Int)) then
          let t6:=(z4.2.2.2.1.getD (z4.2.1.toNat) ([],([],())))
          bif decide (0<=z4.2.1)&&decide (z4.2.1<(z4.2.2.2.1.length:Int)) then
           let t7:=(List.set z4.2.2.2.1 (z4.2.1.toNat) t5)
           bif decide (0<=z4.2.2.1)&&decide (z4.2.2.1<(t7.length:Int)) then
            let t8:=i64.wrap (z4.2.2.1-1)
            match Hn (z4.1,(i64.wrap (z4.2.1+1)),t8,(List.set t7 (z4.2.2.1.toNat) t6),()) with
            |none=>none
            |some (.inl z9)=>
             bif decide (0<=z9.1)&&decide (z9.1<(z9.2.2.1.length:Int)) then
              let t10:=(z9.2.2.1.getD (z9.1.toNat) ([],([],())))
              bif decide (0<=z9.2.1)&&decide (z9.2.1<(z9.2.2.1.length:Int)) then
               let t11:=(z9.2.2.1.getD (z9.2.1.toNat) ([],([],())))
               bif decide (0<=z9.2.1)&&decide (z9.2.1<(z9.2.2.1.length:Int)) then
                let t12:=(List.set z9.2.2.1 (z9.2.1.toNat) t10)
                bif decide (0<=z9.1)&&decide (z9.1<(t12.length:Int)) then
                 some (z9.2.1,false,(List.set t12 (z9.1.toNat) t11),())
                else none
               else none
              else none
             else none
            |some (.inr z9)=>
             none
           else none
          else none
         else none
        else none
      |some (.inr z4)=>
       none
     |some (.inr z3)=>
      none
    else none
   else none
  else none
 else none
def Iv (d:Int×G):N (Int×G):=
 match yN ((IntKind.u64.wrap d.1),()) with
 |none=>none
 |some Q=>
  bif decide (Q.1<0) then
   none
  else
   let t1:=(IntKind.u64.wrap (1*2^(min (Q.1.toNat) IntKind.u64.bits)))
   some (t1,())
def SC (d:Int×G):N kK:=
 let t0:=(IntKind.u64.wrap (d.1*2^(min (Int.toNat 13) IntKind.u64.bits)))
 let t1:=(IntKind.u64.wrap ((BitVec.ofInt IntKind.u64.bits d.1 ^^^ BitVec.ofInt IntKind.u64.bits t0).toNat:Int))
 let t2:Int:=(Int.fdiv t1 (2^(min (Int.toNat 7) IntKind.u64.bits)))
 let t3:=(IntKind.u64.wrap ((BitVec.ofInt IntKind.u64.bits t1 ^^^ BitVec.ofInt IntKind.u64.bits t2).toNat:Int))
 let t4:=(IntKind.u64.wrap (t3*2^(min (Int.toNat 17) IntKind.u64.bits)))
 let t5:=(IntKind.u64.wrap ((BitVec.ofInt IntKind.u64.bits t3 ^^^ BitVec.ofInt IntKind.u64.bits t4).toNat:Int))
 some (t5,t5,())
def G0 (d:Int×Int×Int×Int×Int×aq×Int×G):N (KJ⊕((aq×G)⊕G)):=
 bif (decide (0<=(i64.wrap (d.1+d.2.2.2.2.1)))&&decide (((i64.wrap (d.1+d.2.2.2.2.1)):Int)<(d.2.2.2.2.2.1.length:Int))) then
  let t0:=(d.2.2.2.2.2.1.getD (Int.toNat (i64.wrap (d.1+d.2.2.2.2.1))) ([],([],())))
  bif decide (0<=d.2.2.2.1)&&decide (d.2.2.2.1<(d.2.2.2.2.2.1.length:Int)) then
   let t1:=(d.2.2.2.2.2.1.getD (d.2.2.2.1.toNat) ([],([],())))
   bif decide (0<=d.2.2.2.1)&&decide (d.2.2.2.1<(d.2.2.2.2.2.1.length:Int)) then
    let t2:=(List.set d.2.2.2.2.2.1 (d.2.2.2.1.toNat) t0)
    bif (decide (0<=(i64.wrap (d.1+d.2.2.2.2.1)))&&decide (((i64.wrap (d.1+d.2.2.2.2.1)):Int)<(t2.length:Int))) then
     let t3:=(List.set t2 (Int.toNat (i64.wrap (d.1+d.2.2.2.2.1))) t1)
     let t4:=i64.wrap (d.2.2.2.1+1)
     some (.inl (d.1,d.2.1,d.2.2.1,t4,t3,d.2.2.2.2.2.2.1,()))
    else none
   else none
  else none
 else none
def BP (d:KJ):N (KJ⊕((aq×G)⊕G)):=
 let t0:=i64.wrap (Int.tdiv d.2.1 4)
 let t1:=(i64.wrap (d.1+(i64.wrap (t0*2))))
 let t2:=(decide (d.2.2.2.1<=(i64.wrap (t1+1))))
 bif t2 then
  match SC (d.2.2.2.2.2.1,()) with
  |none=>none
  |some bR=>
   let t4:=(IntKind.u64.wrap ((BitVec.ofInt IntKind.u64.bits bR.1 &&& BitVec.ofInt IntKind.u64.bits (IntKind.u64.wrap (d.2.2.1-1))).toNat:Int))
   let t5:=(decide (((i64.wrap t4):Int)>=d.2.1))
   bif t5 then
    let t6:=i64.wrap ((i64.wrap t4)-d.2.1)
    G0 (d.1,d.2.1,d.2.2.1,d.2.2.2.1,t6,d.2.2.2.2.1,bR.2.1,())
   else
    G0 (d.1,d.2.1,d.2.2.1,d.2.2.2.1,(i64.wrap t4),d.2.2.2.2.1,bR.2.1,())
 else
  some (.inr (.inl (d.2.2.2.2.1,())))
def PI:=b4 BP
def G9 (d:l1):N (aq×G):=
 let t0:=(decide (((i64.wrap (d.2.1-d.1)):Int)>=8))
 bif t0 then
  let t1:=(IntKind.u64.wrap (i64.wrap (d.2.1-d.1)))
  match Iv ((i64.wrap (d.2.1-d.1)),()) with
  |none=>none
  |some aJ=>
   let t3:=(i64.wrap (Int.tdiv (i64.wrap (d.2.1-d.1)) 4))
   let t4:=(i64.wrap (d.1+(i64.wrap (t3*2))))
   match PI (d.1,(i64.wrap (d.2.1-d.1)),aJ.1,(i64.wrap (t4-1)),d.2.2.1,t1,()) with
   |none=>none
   |some (.inl z5)=>
    some (z5.1,())
   |some (.inr z5)=>
    none
 else
  some (d.2.2.1,())
def ni (cf:eP->N (aq×G)) (d:TZ):N (TM⊕(aq×G)):=
 bif d.2.2.2.2.2.2.2.1 then
  match Bq (d.1,d.2.1,d.2.2.2.2.2.2.2.2.1,()) with
  |none=>none
  |some Q=>
   bif Q.1 then
    some (.inr (Q.2.1,()))
   else
    some (.inl (d.1,d.2.1,d.2.2.1,d.2.2.2.1,d.2.2.2.2.1,d.2.2.2.2.2.1,d.2.2.2.2.2.2.1,Q.2.1,()))
 else
  some (.inl (d.1,d.2.1,d.2.2.1,d.2.2.2.1,d.2.2.2.2.1,d.2.2.2.2.2.1,d.2.2.2.2.2.2.1,d.2.2.2.2.2.2.2.2.1,()))
def pP (cf:eP->N (aq×G)) (d:TZ):N (wQ⊕qD):=
 bif d.2.2.2.2.2.2.2.1 then
  match Bz (d.1,d.2.1,d.2.2.2.2.2.2.1,d.2.2.2.2.2.2.2.2.1,()) with
  |none=>none
  |some Q=>
   some (.inr (Q.1,d.2.1,d.2.2.1,d.2.2.2.1,d.2.2.2.2.1,Q.2.1,()))
 else
  some (.inl (d.1,d.2.1,d.2.2.1,d.2.2.2.2.2.1,d.2.2.2.2.2.2.1,d.2.2.2.2.2.2.2.2.1,()))
def qT (cf:eP->N (aq×G)) (d:wQ):N (qD⊕G):=
 match BR (d.1,d.2.1,d.2.2.2.2.1,d.2.2.2.2.2.1,()) with
 |none=>none
 |some Q=>
  let t1:=i64.wrap (Int.tdiv d.2.2.2.1 8)
  let t2:=(decide (((i64.wrap (Q.1-d.1)):Int)<(i64.wrap (d.2.1-Q.1))))
  bif t2 then
   let t3:=(decide (((i64.wrap (Q.1-d.1)):Int)>=t1))
   match cf (d.1,Q.1,d.2.2.1,Q.2.2.1,()) with
   |none=>none
   |some cB=>
    some (.inl ((i64.wrap (Q.1+1)),d.2.1,d.2.2.1,t3,Q.2.1,cB.1,()))
  else
   let t3:=(decide (((i64.wrap (d.2.1-Q.1)):Int)>=t1))
   match cf ((i64.wrap (Q.1+1)),d.2.1,d.2.2.1,Q.2.2.1,()) with
   |none=>none
   |some cB=>
    some (.inl (d.1,Q.1,d.2.2.1,t3,Q.2.1,cB.1,()))
def l3 (cf:eP->N (aq×G)) (d:TM):N (qD⊕qD):=
 bif decide (d.1>0) then
  bif (decide (0<=(i64.wrap (d.1-1)))&&decide (((i64.wrap (d.1-1)):Int)<(d.2.2.2.2.2.2.2.1.length:Int))) then
   let t0:=(d.2.2.2.2.2.2.2.1.getD (Int.toNat (i64.wrap (d.1-1))) ([],([],())))
   bif decide (0<=d.2.2.2.2.2.2.1)&&decide (d.2.2.2.2.2.2.1<(d.2.2.2.2.2.2.2.1.length:Int)) then
    let t1:=(d.2.2.2.2.2.2.2.1.getD (d.2.2.2.2.2.2.1.toNat) ([],([],())))
    match k7 (t0,t1,()) with
    |none=>none
    |some aJ=>
     match pP cf (d.1,d.2.1,d.2.2.1,d.2.2.2.1,d.2.2.2.2.1,d.2.2.2.2.2.1,d.2.2.2.2.2.2.1,(!(decide (aJ.1<0))),d.2.2.2.2.2.2.2.1,()) with
     |none=>none
     |some (.inl z3)=>
      match qT cf (z3.1,z3.2.1,z3.2.2.1,z3.2.2.2.1,z3.2.2.2.2.1,z3.2.2.2.2.2.1,()) with
      |none=>none
      |some (.inl z4)=>
       some (.inl (z4.1,z4.2.1,z4.2.2.1,z4.2.2.2.1,z4.2.2.2.2.1,z4.2.2.2.2.2.1,()))
      |some (.inr z4)=>
       none
     |some (.inr z3)=>
      some (.inr (z3.1,z3.2.1,z3.2.2.1,z3.2.2.2.1,z3.2.2.2.2.1,z3.2.2.2.2.2.1,()))
   else none
  else none
 else
  match pP cf (d.1,d.2.1,d.2.2.1,d.2.2.2.1,d.2.2.2.2.1,d.2.2.2.2.2.1,d.2.2.2.2.2.2.1,false,d.2.2.2.2.2.2.2.1,()) with
  |none=>none
  |some (.inl z0)=>
   match qT cf (z0.1,z0.2.1,z0.2.2.1,z0.2.2.2.1,z0.2.2.2.2.1,z0.2.2.2.2.2.1,()) with
   |none=>none
   |some (.inl aG)=>
    some (.inl (aG.1,aG.2.1,aG.2.2.1,aG.2.2.2.1,aG.2.2.2.2.1,aG.2.2.2.2.2.1,()))
   |some (.inr aG)=>
    none
  |some (.inr z0)=>
   some (.inr (z0.1,z0.2.1,z0.2.2.1,z0.2.2.2.1,z0.2.2.2.2.1,z0.2.2.2.2.2.1,()))
def Hc (cf:eP->N (aq×G)) (d:Int×Int×Int×Bool×Bool×Int×Int×Int×aq×G):N (qD⊕((aq×G)⊕G)):=
 bif d.2.2.2.1 then
  bif d.2.2.2.2.1 then
   let t0:=decide (d.2.2.2.2.2.2.2.1=1)
   match ni cf (d.1,d.2.1,d.2.2.1,d.2.2.2.1,d.2.2.2.2.1,d.2.2.2.2.2.1,d.2.2.2.2.2.2.1,t0,d.2.2.2.2.2.2.2.2.1,()) with
   |none=>none
   |some (.inl aG)=>
    match l3 cf (aG.1,aG.2.1,aG.2.2.1,aG.2.2.2.1,aG.2.2.2.2.1,aG.2.2.2.2.2.1,aG.2.2.2.2.2.2.1,aG.2.2.2.2.2.2.2.1,()) with
    |none=>none
    |some (.inl z2)=>
     some (.inl (z2.1,z2.2.1,z2.2.2.1,z2.2.2.2.1,z2.2.2.2.2.1,z2.2.2.2.2.2.1,()))
    |some (.inr z2)=>
     some (.inl (z2.1,z2.2.1,z2.2.2.1,z2.2.2.2.1,z2.2.2.2.2.1,z2.2.2.2.2.2.1,()))
   |some (.inr aG)=>
    some (.inr (.inl (aG.1,())))
  else
   match ni cf (d.1,d.2.1,d.2.2.1,d.2.2.2.1,d.2.2.2.2.1,d.2.2.2.2.2.1,d.2.2.2.2.2.2.1,false,d.2.2.2.2.2.2.2.2.1,()) with
   |none=>none
   |some (.inl z0)=>
    match l3 cf (z0.1,z0.2.1,z0.2.2.1,z0.2.2.2.1,z0.2.2.2.2.1,z0.2.2.2.2.2.1,z0.2.2.2.2.2.2.1,z0.2.2.2.2.2.2.2.1,()) with
    |none=>none
    |some (.inl aG)=>
     some (.inl (aG.1,aG.2.1,aG.2.2.1,aG.2.2.2.1,aG.2.2.2.2.1,aG.2.2.2.2.2.1,()))
    |some (.inr aG)=>
     some (.inl (aG.1,aG.2.1,aG.2.2.1,aG.2.2.2.1,aG.2.2.2.2.1,aG.2.2.2.2.2.1,()))
   |some (.inr z0)=>
    some (.inr (.inl (z0.1,())))
 else
  match ni cf (d.1,d.2.1,d.2.2.1,d.2.2.2.1,d.2.2.2.2.1,d.2.2.2.2.2.1,d.2.2.2.2.2.2.1,false,d.2.2.2.2.2.2.2.2.1,()) with
  |none=>none
  |some (.inl z0)=>
   match l3 cf (z0.1,z0.2.1,z0.2.2.1,z0.2.2.2.1,z0.2.2.2.2.1,z0.2.2.2.2.2.1,z0.2.2.2.2.2.2.1,z0.2.2.2.2.2.2.2.1,()) with
   |none=>none
   |some (.inl aG)=>
    some (.inl (aG.1,aG.2.1,aG.2.2.1,aG.2.2.2.1,aG.2.2.2.2.1,aG.2.2.2.2.2.1,()))
   |some (.inr aG)=>
    some (.inl (aG.1,aG.2.1,aG.2.2.1,aG.2.2.2.1,aG.2.2.2.2.1,aG.2.2.2.2.2.1,()))
  |some (.inr z0)=>
   some (.inr (.inl (z0.1,())))
def Hb (cf:eP->N (aq×G)) (d:Int×Int×Int×Bool×Bool×Int×aq×G):N (qD⊕((aq×G)⊕G)):=
 match Hr (d.1,d.2.1,d.2.2.2.2.2.2.1,()) with
 |none=>none
 |some Q=>
  bif decide (Q.2.1=2) then
   match BF (d.1,d.2.1,Q.2.2.1,()) with
   |none=>none
   |some ah=>
    let t2:=(i64.wrap ((i64.wrap (d.2.1-1))-(i64.wrap (Q.1-d.1))))
    Hc cf (d.1,d.2.1,d.2.2.1,d.2.2.2.1,d.2.2.2.2.1,d.2.2.2.2.2.1,t2,1,ah.1,())
  else
   Hc cf (d.1,d.2.1,d.2.2.1,d.2.2.2.1,d.2.2.2.2.1,d.2.2.2.2.2.1,Q.1,Q.2.1,Q.2.2.1,())
def xE (cf:eP->N (aq×G)) (d:qD):N (qD⊕((aq×G)⊕G)):=
 let t0:=(decide (((i64.wrap (d.2.1-d.1)):Int)<=12))
 bif t0 then
  match Ha (d.1,d.2.1,d.2.2.2.2.2.1,()) with
  |none=>none
  |some ah=>
   some (.inr (.inl (ah.1,())))
 else
  bif decide (d.2.2.1=0) then
   match HG (d.1,d.2.1,d.2.2.2.2.2.1,()) with
   |none=>none
   |some ah=>
    some (.inr (.inl (ah.1,())))
  else
   bif !d.2.2.2.1 then
    match G9 (d.1,d.2.1,d.2.2.2.2.2.1,()) with
    |none=>none
    |some ah=>
     Hb cf (d.1,d.2.1,(i64.wrap (d.2.2.1-1)),d.2.2.2.1,d.2.2.2.2.1,(i64.wrap (d.2.1-d.1)),ah.1,())
   else
    Hb cf (d.1,d.2.1,d.2.2.1,d.2.2.2.1,d.2.2.2.2.1,(i64.wrap (d.2.1-d.1)),d.2.2.2.2.2.1,())
def Hx (cf:eP->N (aq×G)) (d:qD):N ((aq×G)⊕G):=b4 (xE cf) d
def BE (cf:eP->N (aq×G)) (d:eP):N (aq×G):=
 match Hx cf (d.1,d.2.1,d.2.2.1,true,true,d.2.2.2.1,()) with
 |none=>none
 |some (.inl z0)=>
  some (z0.1,())
 |some (.inr z0)=>
  none
def Ho:Nat->eP->N (aq×G)
 |0,_=>none
 |n+1,d=>BE (Ho n) d
def R3 (d:eP):N (aq×G):=Ho kZ d
def Hw (d:aq×G):N (aq×G):=
 let t0:=(IntKind.u64.wrap ((d.1.length):Int))
 match yN (t0,()) with
 |none=>none
 |some ah=>
  match R3 (0,((d.1.length):Int),ah.1,d.1,()) with
  |none=>none
  |some aJ=>
   some (aJ.1,())
def Tx (d:Int×Int×Int×aq×aK×aq×G):N (EV⊕((aq×G)⊕G)):=
 bif (decide (0<=(i64.wrap (d.1-1)))&&decide (((i64.wrap (d.1-1)):Int)<(d.2.2.2.1.length:Int))) then
  let t0:=(d.2.2.2.1.getD (Int.toNat (i64.wrap (d.1-1))) ([],([],())))
  match pZ (t0.2.1,d.2.2.2.2.1.2.1,()) with
  |none=>none
  |some ah=>
   bif decide (ah.1<0) then
    bif (decide (0<=(i64.wrap (d.1-1)))&&decide (((i64.wrap (d.1-1)):Int)<(d.2.2.2.1.length:Int))) then
     let t2:=(List.set d.2.2.2.1 (Int.toNat (i64.wrap (d.1-1))) ((d.2.2.2.1.getD (Int.toNat (i64.wrap (d.1-1))) ([],([],()))).1,(d.2.2.2.2.1.2.1,(d.2.2.2.1.getD (Int.toNat (i64.wrap (d.1-1))) ([],([],()))).2.2)))
     some (.inl (d.2.1,(i64.wrap (d.2.2.1+1)),t2,d.2.2.2.2.2.1,()))
    else none
   else
    some (.inl (d.2.1,(i64.wrap (d.2.2.1+1)),d.2.2.2.1,d.2.2.2.2.2.1,()))
 else none
def vE (d:Int×Int×Int×Bool×aq×aK×aq×G):N (EV⊕((aq×G)⊕G)):=
 bif d.2.2.2.1 then
  bif (decide ((d.2.2.2.2.1.length+List.length ([d.2.2.2.2.2.1]:aq))*32<=bp)) then
   let t0:aq:=(d.2.2.2.2.1++([d.2.2.2.2.2.1]:aq))
   some (.inl (d.2.1,(i64.wrap (d.2.2.1+1)),t0,d.2.2.2.2.2.2.1,()))
  else none
 else
  Tx (d.1,d.2.1,d.2.2.1,d.2.2.2.2.1,d.2.2.2.2.2.1,d.2.2.2.2.2.2.1,())
def tj (d:EV):N (EV⊕((aq×G)⊕G)):=
 bif decide (d.2.1<d.1) then
  bif decide (0<=d.2.1)&&decide (d.2.1<(d.2.2.2.1.length:Int)) then
   let t0:=(d.2.2.2.1.getD (d.2.1.toNat) ([],([],())))
   let t1:=(decide ((((d.2.2.1.length):Int):Int)=0))
   bif !t1 then
    let t2:=(i64.wrap (((d.2.2.1.length):Int)-1))
    bif decide (0<=t2)&&decide (t2<(d.2.2.1.length:Int)) then
     let t3:=(d.2.2.1.getD (t2.toNat) ([],([],())))
     let t4:=(!decide ((t3.2.1:M)=[]))
     bif t4 then
      let t5:=(i64.wrap (((d.2.2.1.length):Int)-1))
      bif decide (0<=t5)&&decide (t5<(d.2.2.1.length:Int)) then
       let t6:=(d.2.2.1.getD (t5.toNat) ([],([],())))
       vE (((d.2.2.1.length):Int),d.1,d.2.1,(Op.bytesLess t6.2.1 t0.1),d.2.2.1,t0,d.2.2.2.1,())
      else none
     else
      vE (((d.2.2.1.length):Int),d.1,d.2.1,false,d.2.2.1,t0,d.2.2.2.1,())
    else none
   else
    vE (((d.2.2.1.length):Int),d.1,d.2.1,true,d.2.2.1,t0,d.2.2.2.1,())
  else none
 else
  some (.inr (.inl (d.2.2.1,())))
def M1:=b4 tj
def wm (d:aq×G):N (aq×G):=
 match HI (d.1,()) with
 |none=>none
 |some Q=>
  match BD (Q.1,()) with
  |none=>none
  |some ah=>
   match Hw (ah.1,()) with
   |none=>none
   |some aJ=>
    match M1 (((aJ.1.length):Int),0,[],aJ.1,()) with
    |none=>none
    |some (.inl z3)=>
     some (z3.1,())
    |some (.inr z3)=>
     none
def tk (d:TO):N (TO⊕((aq×G)⊕(M×aq×G))):=
 bif decide (d.2.2.2.1<d.2.2.1) then
  bif decide (0<=d.2.2.2.1)&&decide (d.2.2.2.1<(d.2.1.length:Int)) then
   let t0:=(d.2.1.getD (d.2.2.2.1.toNat) ([],([],())))
   let t1:=(!decide ((t0.1:M)=[]))
   bif t1 then
    bif (decide ((d.2.2.2.2.1.length+List.length ([(d.1,(t0.1,()))]:aq))*32<=bp)) then
     let t2:aq:=(d.2.2.2.2.1++([(d.1,(t0.1,()))]:aq))
     let t3:=decide ((t0.2.1:M)=[])
     bif t3 then
      some (.inr (.inl (t2,())))
     else
      let t4:=i64.wrap (d.2.2.2.1+1)
      some (.inl (t0.2.1,d.2.1,d.2.2.1,t4,t2,()))
    else none
   else
    let t2:=decide ((t0.2.1:M)=[])
    bif t2 then
     some (.inr (.inl (d.2.2.2.2.1,())))
    else
     let t3:=i64.wrap (d.2.2.2.1+1)
     some (.inl (t0.2.1,d.2.1,d.2.2.1,t3,d.2.2.2.2.1,()))
  else none
 else
  some (.inr (.inr (d.1,d.2.2.2.2.1,())))
def M4:=b4 tk
def Aw (d:aq×G):N (aq×G):=
 match M4 ([],d.1,((d.1.length):Int),0,[],()) with
 |none=>none
 |some (.inl z0)=>
  some (z0.1,())
 |some (.inr z0)=>
  bif (decide ((z0.2.1.length+List.length ([(z0.1,([],()))]:aq))*32<=bp)) then
   let t1:aq:=(z0.2.1++([(z0.1,([],()))]:aq))
   some (t1,())
  else none
def DL (d:TS):N (TS⊕(Kq⊕G)):=
 let t0:=decide (d.2.2.2.2.2.1<d.2.2.2.2.1)
 bif t0 then
  bif decide (0<=d.2.2.2.2.2.1)&&decide (d.2.2.2.2.2.1<(d.2.2.2.1.length:Int)) then
   let t1:=(d.2.2.2.1.getD (d.2.2.2.2.2.1.toNat) ([],([],())))
   match tS (d.2.2.2.2.2.2.2.1,t1,()) with
   |none=>none
   |some aJ=>
    bif (decide ((d.2.2.2.2.2.2.1.length+List.length ([aJ.1]:aq))*32<=bp)) then
     let t3:aq:=(d.2.2.2.2.2.2.1++([aJ.1]:aq))
     let t4:=i64.wrap (d.2.2.2.2.2.1+1)
     some (.inl (d.1,d.2.1,d.2.2.1,d.2.2.2.1,d.2.2.2.2.1,t4,t3,d.2.2.2.2.2.2.2.1,d.2.2.2.2.2.2.2.2.1,()))
    else none
  else none
 else
  some (.inr (.inl (d.1,d.2.1,d.2.2.1,d.2.2.2.2.2.2.1,d.2.2.2.2.2.2.2.2.1,())))
def Md:=b4 DL
def DK (d:Kq):N (Kq⊕((aq×G)⊕G)):=
 bif decide (d.2.2.1<d.2.1) then
  bif decide (0<=d.2.2.1)&&decide (d.2.2.1<(d.2.2.2.2.1.length:Int)) then
   let t0:=(d.2.2.2.2.1.getD (d.2.2.1.toNat) ([],([],())))
   match Md (d.1,d.2.1,d.2.2.1,d.1,((d.1.length):Int),0,d.2.2.2.1,t0,d.2.2.2.2.1,()) with
   |none=>none
   |some (.inl aG)=>
    let t2:=i64.wrap (aG.2.2.1+1)
    some (.inl (aG.1,aG.2.1,t2,aG.2.2.2.1,aG.2.2.2.2.1,()))
   |some (.inr aG)=>
    none
  else none
 else
  some (.inr (.inl (d.2.2.2.1,())))
def Mc:=b4 DK
def FD (d:KB):N (aq×G):=
 match wm (d.2.1,()) with
 |none=>none
 |some Q=>
  match Aw (Q.1,()) with
  |none=>none
  |some ah=>
   match Mc (d.1,((ah.1.length):Int),0,[],ah.1,()) with
   |none=>none
   |some (.inl z2)=>
    match wm (z2.1,()) with
    |none=>none
    |some bR=>
     some (bR.1,())
   |some (.inr z2)=>
    none
def yQ (d:KB):N KB:=
 match FD (d.2.1,d.1,()) with
 |none=>none
 |some Q=>
  some (d.2.1,Q.1,())
def y6 (d:aK×M×M×G):N (aK×G):=
 match mr (d.2.2.1,()) with
 |none=>none
 |some Q=>
  match tF (d.1.1,d.2.1,d.2.2.1,()) with
  |none=>none
  |some ah=>
   match tF (d.1.2.1,d.2.1,d.2.2.1,()) with
   |none=>none
   |some aJ=>
    bif aJ.2.1 then
     some ((ah.1,(aJ.1,())),())
    else
     some ((ah.1,(Q.1.2.1,())),())
def yl (d:T0):N (T0⊕((Int×aq×aq×G)⊕G)):=
 bif decide (d.2.1<d.1) then
  bif decide (0<=d.2.1)&&decide (d.2.1<(d.2.2.2.1.length:Int)) then
   let t0:=(d.2.2.2.1.getD (d.2.1.toNat) ([],([],())))
   match tS (t0,d.2.2.2.2.2.1,()) with
   |none=>none
   |some ah=>
    match k8 (ah.1,()) with
    |none=>none
    |some aJ=>
     bif !aJ.1 then
      match y6 (ah.1,d.2.2.2.2.1.2.2.2.2.2.1,d.2.2.2.2.1.2.2.2.2.1,()) with
      |none=>none
      |some bR=>
       bif (decide ((d.2.2.2.2.2.2.1.length+List.length ([bR.1]:aq))*32<=bp)) then
        let t4:aq:=(d.2.2.2.2.2.2.1++([bR.1]:aq))
        some (.inl (d.1,(i64.wrap (d.2.1+1)),d.2.2.1,d.2.2.2.1,d.2.2.2.2.1,d.2.2.2.2.2.1,t4,()))
       else none
     else
      some (.inl (d.1,(i64.wrap (d.2.1+1)),d.2.2.1,d.2.2.2.1,d.2.2.2.2.1,d.2.2.2.2.2.1,d.2.2.2.2.2.2.1,()))
  else none
 else
  some (.inr (.inl (d.2.2.1,d.2.2.2.1,d.2.2.2.2.2.2.1,())))
def So:=b4 yl
def CZ (d:Int×aq×bB×aK×aq×G):N (Bool×Int×aq×G):=
 match yQ (d.2.2.2.2.1,d.2.1,()) with
 |none=>none
 |some Q=>
  match So (((Q.1.length):Int),0,d.1,Q.1,d.2.2.1,d.2.2.2.1,Q.2.1,()) with
  |none=>none
  |some (.inl aG)=>
   match wm (aG.2.2.1,()) with
   |none=>none
   |some aJ=>
    bif decide (aG.1= -1) then
     some (true,0,aJ.1,())
    else none
  |some (.inr aG)=>
   none
def CY (d:Bool×Int×aq×bB×G):N (Bool×Int×aq×G):=
 bif d.1 then
  match mr (d.2.2.2.1.2.2.2.2.2.1,()) with
  |none=>none
  |some Q=>
   let t1:=decide (d.2.2.2.1.1=4)
   bif t1 then
    match mr (d.2.2.2.1.2.2.2.2.1,()) with
    |none=>none
    |some aJ=>
     bif (decide ((List.length ([Q.1]:aq)+List.length ([aJ.1]:aq))*32<=bp)) then
      let t3:aq:=(([Q.1]:aq)++([aJ.1]:aq))
      CZ (d.2.1,d.2.2.1,d.2.2.2.1,Q.1,t3,())
     else none
   else
    CZ (d.2.1,d.2.2.1,d.2.2.2.1,Q.1,([Q.1]:aq),())
 else
  bif decide (d.2.1= -1) then
   some (true,0,d.2.2.1,())
  else none
def sA (d:Int×Bool×Int×aq×bB×G):N (Bool×Int×aq×G):=
 bif d.2.1 then
  match qt (d.2.2.2.2.1.2.1,()) with
  |none=>none
  |some Q=>
   match yQ (([Q.1]:aq),d.2.2.2.1,()) with
   |none=>none
   |some ah=>
    bif decide (d.2.2.1= -1) then
     some (true,0,ah.2.1,())
    else none
 else
  bif decide (d.1=3) then
   match yQ (([d.2.2.2.2.1.2.2.2.1]:aq),d.2.2.2.1,()) with
   |none=>none
   |some Q=>
    bif decide (d.2.2.1= -1) then
     some (true,0,Q.2.1,())
    else none
  else
   bif decide (d.1=4) then
    CY (true,d.2.2.1,d.2.2.2.1,d.2.2.2.2.1,())
   else
    CY ((decide (d.1=5)),d.2.2.1,d.2.2.2.1,d.2.2.2.2.1,())
def pX (d:Int×bB×Int×aq×G):N (Bool×Int×aq×G):=
 bif decide (d.2.2.1=0) then
  bif decide (d.2.2.1=0) then
   bif decide (d.2.1.1=1) then
    sA (d.2.1.1,true,(-1:Int),d.2.2.2.1,d.2.1,())
   else
    sA (d.2.1.1,(decide (d.2.1.1=2)),(-1:Int),d.2.2.2.1,d.2.1,())
  else none
 else none
def BH (d:Int×Int×cG×aq×G):N ((Int×Int×cG×aq×G)⊕(ER⊕ER)):=
 bif decide (d.1>=0) then
  bif decide (0<=d.1)&&decide (d.1<(d.2.2.1.length:Int)) then
   let t0:=(d.2.2.1.getD (d.1.toNat) (0,([],([],(([],([],())),([],([],(0,()))))))))
   match pX (d.1,t0,d.2.1,d.2.2.2.1,()) with
   |none=>none
   |some ah=>
    bif !ah.1 then
     some (.inr (.inl (ah.2.1,d.2.2.1,ah.2.2.1,())))
    else
     some (.inl ((i64.wrap (d.1-1)),ah.2.1,d.2.2.1,ah.2.2.1,()))
  else none
 else
  some (.inr (.inr (d.2.1,d.2.2.1,d.2.2.2.1,())))
def PX:=b4 BH
def P4 (d:ER):N ER:=
 let t0:=(i64.wrap (((d.2.1.length):Int)-1))
 match PX (t0,d.1,d.2.1,d.2.2.1,()) with
 |none=>none
 |some (.inl aG)=>
  some (aG.1,aG.2.1,aG.2.2.1,())
 |some (.inr aG)=>
  some (aG.1,aG.2.1,aG.2.2.1,())
def Ed (d:aK×cG×G):N (aq×G):=
 match wm (([d.1]:aq),()) with
 |none=>none
 |some Q=>
  match BS (d.2.1,()) with
  |none=>none
  |some ah=>
   match P4 (0,ah.1,Q.1,()) with
   |none=>none
   |some aJ=>
    bif decide (aJ.1=0) then
     some (aJ.2.2.1,())
    else
     bif decide (aJ.1=1) then
      some ([],())
     else none
def SB (d:uq):N (Bool×aK×G):=
 match tS (d.1,d.2.1,()) with
 |none=>none
 |some Q=>
  match k8 (Q.1,()) with
  |none=>none
  |some ah=>
   some ((!ah.1),d.2.1,())
def Ab (d:aj×cG×Int×Int×G):N ((aj×cG×Int×Int×G)⊕((aj×G)⊕G)):=
 bif decide (d.2.2.2.1<d.2.2.1) then
  bif decide (0<=d.2.2.2.1)&&decide (d.2.2.2.1<(d.2.1.length:Int)) then
   let t0:=(d.2.1.getD (d.2.2.2.1.toNat) (0,([],([],(([],([],())),([],([],(0,()))))))))
   match rK (d.1,t0,()) with
   |none=>none
   |some ah=>
    let t2:=i64.wrap (d.2.2.2.1+1)
    some (.inl (ah.1,d.2.1,d.2.2.1,t2,()))
  else none
 else
  some (.inr (.inl (d.1,())))
def NM:=b4 Ab
def w2 (d:aj×cG×G):N (aj×G):=
 match NM (d.1,d.2.1,((d.2.1.length):Int),0,()) with
 |none=>none
 |some (.inl z0)=>
  some (z0.1,())
 |some (.inr z0)=>
  none
def TB (d:aK×b5×G):N (Bool×b5×G):=
 match pC (d.1,d.2.1.1,()) with
 |none=>none
 |some Q=>
  some (Q.1,d.2.1,())
def BK (d:aq×Int×Int×b5×G):N ((aq×Int×Int×b5×G)⊕((Int×b5×G)⊕(b5×G))):=
 bif decide (d.2.2.1<d.2.1) then
  bif decide (0<=d.2.2.1)&&decide (d.2.2.1<(d.1.length:Int)) then
   let t0:=(d.1.getD (d.2.2.1.toNat) ([],([],())))
   match TB (t0,d.2.2.2.1,()) with
   |none=>none
   |some ah=>
    bif ah.1 then
     some (.inr (.inl (d.2.2.1,ah.2.1,())))
    else
     some (.inl (d.1,d.2.1,(i64.wrap (d.2.2.1+1)),ah.2.1,()))
  else none
 else
  some (.inr (.inr (d.2.2.2.1,())))
def P0:=b4 BK
def G5 (d:aq×b5×G):N (Int×b5×G):=
 match P0 (d.1,((d.1.length):Int),0,d.2.1,()) with
 |none=>none
 |some (.inl z0)=>
  some (z0.1,z0.2.1,())
 |some (.inr z0)=>
  some ((-1:Int),z0.1,())
def ce (d:aq×b5×G):N (Bool×b5×G):=
 match G5 (d.1,d.2.1,()) with
 |none=>none
 |some Q=>
  some ((decide (Q.1>=0)),Q.2.1,())
def DO (d:b5×aq×G):N (Bool×aq×G):=
 match ce (d.2.1,d.1,()) with
 |none=>none
 |some Q=>
  some ((!Q.1),d.2.1,())
def By (d:EP):N (EP⊕((Int×aj×aq×G)⊕wP)):=
 bif decide (d.2.1<d.1) then
  bif decide (0<=d.2.1)&&decide (d.2.1<(d.2.2.1.length:Int)) then
   let t0:=(d.2.2.1.getD (d.2.1.toNat) ([],([],(0,()))))
   match DO (t0,d.2.2.2.1,()) with
   |none=>none
   |some ah=>
    bif ah.1 then
     some (.inr (.inl (d.2.1,d.2.2.1,ah.2.1,())))
    else
     some (.inl (d.1,(i64.wrap (d.2.1+1)),d.2.2.1,ah.2.1,()))
  else none
 else
  some (.inr (.inr (d.2.2.1,d.2.2.2.1,())))
def P6:=b4 By
def xG (d:wP):N (Int×aj×aq×G):=
 match P6 (((d.1.length):Int),0,d.1,d.2.1,()) with
 |none=>none
 |some (.inl z0)=>
  some (z0.1,z0.2.1,z0.2.2.1,())
 |some (.inr z0)=>
  some ((-1:Int),z0.1,z0.2.1,())
def xv (d:EP):N (EP⊕((Int×aj×aq×G)⊕G)):=
 let t0:=(decide (d.2.1<((d.2.2.1.length):Int)))
 bif t0 then
  bif decide (0<=d.2.1)&&decide (d.2.1<(d.2.2.1.length:Int)) then
   let t1:=(d.2.2.1.getD (d.2.1.toNat) ([],([],(0,()))))
   match DO (t1,d.2.2.2.1,()) with
   |none=>none
   |some aJ=>
    bif !aJ.1 then
     bif decide (0<=d.1)&&decide (d.1<(d.2.2.1.length:Int)) then
      some (.inl ((i64.wrap (d.1+1)),(i64.wrap (d.2.1+1)),(List.set d.2.2.1 (d.1.toNat) t1),aJ.2.1,()))
     else none
    else
     some (.inl (d.1,(i64.wrap (d.2.1+1)),d.2.2.1,aJ.2.1,()))
  else none
 else
  some (.inr (.inl (d.1,d.2.2.1,d.2.2.2.1,())))
def Qd:=b4 xv
def BC (d:wP):N (aq×aj×G):=
 match xG (d.1,d.2.1,()) with
 |none=>none
 |some Q=>
  bif decide (Q.1=(-1:Int)) then
   some (Q.2.2.1,Q.2.1,())
  else
   match Qd (Q.1,(i64.wrap (Q.1+1)),Q.2.1,Q.2.2.1,()) with
   |none=>none
   |some (.inl aG)=>
    bif (decide (0<=aG.1)&&decide (aG.1<=(aG.2.1.length:Int))&&decide (((aG.2.1.length:Int):Int)<=(aG.2.1.length:Int))) then
     let t2:=(List.take (aG.1.toNat) aG.2.1++List.replicate ((Int.toNat (aG.2.1.length:Int))-(aG.1.toNat)) (([]:M),(([]:M),((0:Int),())))++List.drop ((aG.1.toNat)+((Int.toNat (aG.2.1.length:Int))-(aG.1.toNat))) aG.2.1)
     bif decide ((0:Int)<=aG.1)&&decide (aG.1<=(t2.length:Int)) then
      some (aG.2.2.1,(List.take (aG.1.toNat) t2),())
     else none
    else none
   |some (.inr aG)=>
    none
def ze (d:wP):N (aj×G):=
 match co (d.1,()) with
 |none=>none
 |some Q=>
  match BC (Q.1,d.2.1,()) with
  |none=>none
  |some ah=>
   some (ah.2.1,())
def Ip (d:b5×Int×aj×G):N (Bool×Int×aj×G):=
 bif decide (d.2.1=0) then
  bif decide (d.2.1=0) then
   bif (decide ((d.2.2.1.length+List.length ([d.1]:aj))*40<=bp)) then
    let t0:aj:=(d.2.2.1++([d.1]:aj))
    some (true,0,t0,())
   else none
  else none
 else none
def BL (d:EO):N (EO⊕((Int×aq×aK×G)⊕r7)):=
 bif decide (d.2.1<d.1) then
  bif decide (0<=d.2.1)&&decide (d.2.1<(d.2.2.1.length:Int)) then
   let t0:=(d.2.2.1.getD (d.2.1.toNat) ([],([],())))
   match SB (t0,d.2.2.2.1,()) with
   |none=>none
   |some ah=>
    bif ah.1 then
     some (.inr (.inl (d.2.1,d.2.2.1,ah.2.1,())))
    else
     some (.inl (d.1,(i64.wrap (d.2.1+1)),d.2.2.1,ah.2.1,()))
  else none
 else
  some (.inr (.inr (d.2.2.1,d.2.2.2.1,())))
def P1:=b4 BL
def G6 (d:r7):N (Int×aq×aK×G):=
 match P1 (((d.1.length):Int),0,d.1,d.2.1,()) with
 |none=>none
 |some (.inl z0)=>
  some (z0.1,z0.2.1,z0.2.2.1,())
 |some (.inr z0)=>
  some ((-1:Int),z0.1,z0.2.1,())
def BI (d:r7):N (Bool×aq×aK×G):=
 match G6 (d.1,d.2.1,()) with
 |none=>none
 |some Q=>
  some ((decide (Q.1>=0)),Q.2.1,Q.2.2.1,())
def HQ (cS:nh->N (aj×bZ×Int×G)) (d:TT):N (uk⊕(mF⊕mF)):=
 bif d.2.2.1 then
  some (.inr (.inl (d.2.2.2.1,d.2.2.2.2.1,d.2.2.2.2.2.1,d.2.2.2.2.2.2.1,d.2.2.2.2.2.2.2.1,d.2.2.2.2.2.2.2.2.1,d.2.2.2.2.2.2.2.2.2.2.1,())))
 else
  some (.inl (d.1,(i64.wrap (d.2.1+1)),d.2.2.2.1,d.2.2.2.2.1,d.2.2.2.2.2.1,d.2.2.2.2.2.2.1,d.2.2.2.2.2.2.2.1,d.2.2.2.2.2.2.2.2.1,d.2.2.2.2.2.2.2.2.2.1,d.2.2.2.2.2.2.2.2.2.2.1,()))
def sx (cS:nh->N (aj×bZ×Int×G)) (d:uk):N (uk⊕(mF⊕mF)):=
 bif decide (d.2.1<d.1) then
  bif decide (0<=d.2.1)&&decide (d.2.1<(d.2.2.2.2.2.2.2.2.1.length:Int)) then
   let t0:=(d.2.2.2.2.2.2.2.2.1.getD (d.2.1.toNat) ([],([],(0,()))))
   let t1:=(!decide (d.2.2.2.2.2.2.2.1=0))
   bif !t1 then
    match Ip (t0,d.2.2.1,d.2.2.2.2.2.2.2.2.2.1,()) with
    |none=>none
    |some aJ=>
     HQ cS (d.1,d.2.1,(!aJ.1),aJ.2.1,d.2.2.2.1,d.2.2.2.2.1,d.2.2.2.2.2.1,d.2.2.2.2.2.2.1,d.2.2.2.2.2.2.2.1,d.2.2.2.2.2.2.2.2.1,aJ.2.2.1,())
   else
    HQ cS (d.1,d.2.1,true,d.2.2.1,d.2.2.2.1,d.2.2.2.2.1,d.2.2.2.2.2.1,d.2.2.2.2.2.2.1,d.2.2.2.2.2.2.2.1,d.2.2.2.2.2.2.2.2.1,d.2.2.2.2.2.2.2.2.2.1,())
  else none
 else
  some (.inr (.inr (d.2.2.1,d.2.2.2.1,d.2.2.2.2.1,d.2.2.2.2.2.1,d.2.2.2.2.2.2.1,d.2.2.2.2.2.2.2.1,d.2.2.2.2.2.2.2.2.2.1,())))
def xM (cS:nh->N (aj×bZ×Int×G)) (d:uk):N (mF⊕mF):=b4 (sx cS) d
def xL (cS:nh->N (aj×bZ×Int×G)) (d:aj×Int×Int×aK×aq×bZ×Int×aj×G):N mF:=
 match ze (d.1,d.2.2.2.2.1,()) with
 |none=>none
 |some Q=>
  match xM cS (((Q.1.length):Int),0,d.2.1,d.2.2.1,d.2.2.2.1,d.2.2.2.2.1,d.2.2.2.2.2.1,d.2.2.2.2.2.2.1,Q.1,d.2.2.2.2.2.2.2.1,()) with
  |none=>none
  |some (.inl aG)=>
   some (aG.1,aG.2.1,aG.2.2.1,aG.2.2.2.1,aG.2.2.2.2.1,aG.2.2.2.2.2.1,aG.2.2.2.2.2.2.1,())
  |some (.inr aG)=>
   some (aG.1,aG.2.1,aG.2.2.1,aG.2.2.2.1,aG.2.2.2.2.1,aG.2.2.2.2.2.1,aG.2.2.2.2.2.2.1,())
def sB (cS:nh->N (aj×bZ×Int×G)) (d:mF):N mF:=
 match kr (d.2.2.2.2.1,d.2.1,()) with
 |none=>none
 |some Q=>
  bif (!decide (Q.2.1=0)) then
   some (d.1,d.2.1,d.2.2.1,d.2.2.2.1,d.2.2.2.2.1,Q.2.1,d.2.2.2.2.2.2.1,())
  else
   match tT (Q.1,()) with
   |none=>none
   |some ah=>
    bif !ah.1 then
     match cS (Q.1,d.2.2.1,d.2.2.2.1,d.2.2.2.2.1,d.2.2.2.2.2.1,()) with
     |none=>none
     |some aJ=>
      match w2 (aJ.1,Q.1.2.2.2.2.1,()) with
      |none=>none
      |some bR=>
       xL cS (bR.1,d.1,d.2.1,d.2.2.1,d.2.2.2.1,aJ.2.1,aJ.2.2.1,d.2.2.2.2.2.2.1,())
    else
     xL cS (Q.1.1,d.1,d.2.1,d.2.2.1,d.2.2.2.1,d.2.2.2.2.1,d.2.2.2.2.2.1,d.2.2.2.2.2.2.1,())
def ii (cS:nh->N (aj×bZ×Int×G)) (d:RK):N (RK⊕((aj×bZ×Int×cZ×aK×aq×G)⊕G)):=
 bif decide (d.2.2.2.1<d.2.2.1) then
  bif decide (0<=d.2.2.2.1)&&decide (d.2.2.2.1<(d.2.1.length:Int)) then
   let t0:=(d.2.1.getD (d.2.2.2.1.toNat) ([],([],())))
   match Ed (t0,d.2.2.2.2.2.2.1.2.2.2.2.1,()) with
   |none=>none
   |some ah=>
    bif decide ((d.2.2.2.2.2.2.2.2.1.length+ah.1.length)*32<=bp) then
     let t2:=i64.wrap (d.2.2.2.1+1)
     some (.inl (d.1,d.2.1,d.2.2.1,t2,d.2.2.2.2.1,d.2.2.2.2.2.1,d.2.2.2.2.2.2.1,d.2.2.2.2.2.2.2.1,(d.2.2.2.2.2.2.2.2.1++ah.1),()))
    else none
  else none
 else
  some (.inr (.inl (d.1,d.2.2.2.2.1,d.2.2.2.2.2.1,d.2.2.2.2.2.2.1,d.2.2.2.2.2.2.2.1,d.2.2.2.2.2.2.2.2.1,())))
def Iw (cS:nh->N (aj×bZ×Int×G)) (d:RK):N ((aj×bZ×Int×cZ×aK×aq×G)⊕G):=b4 (ii cS) d
def u6 (cS:nh->N (aj×bZ×Int×G)) (d:Ku):N (Ku⊕((aj×bZ×Int×G)⊕(bZ×Int×aj×G))):=
 bif decide (d.2.2.1<d.2.1) then
  bif decide (0<=d.2.2.1)&&decide (d.2.2.1<(d.2.2.2.2.2.2.2.1.length:Int)) then
   let t0:=(d.2.2.2.2.2.2.2.1.getD (d.2.2.1.toNat) ([],([],())))
   match BI (d.2.2.2.2.2.2.1,t0,()) with
   |none=>none
   |some ah=>
    bif !ah.1 then
     some (.inl (d.1,d.2.1,(i64.wrap (d.2.2.1+1)),d.2.2.2.1,d.2.2.2.2.1,d.2.2.2.2.2.1,ah.2.1,d.2.2.2.2.2.2.2.1,d.2.2.2.2.2.2.2.2.1,()))
    else
     bif decide (0<=d.2.2.1)&&decide (d.2.2.1<(d.2.2.2.2.2.1.2.2.1.length:Int)) then
      let t2:=(d.2.2.2.2.2.1.2.2.1.getD (d.2.2.1.toNat) 0)
      match qV (t2,ah.2.2.1,ah.2.1,d.2.2.2.1,d.2.2.2.2.1,()) with
      |none=>none
      |some bR=>
       match sB cS (0,bR.2.2.1,bR.2.2.2.1,bR.2.2.2.2.1,bR.1,bR.2.1,d.2.2.2.2.2.2.2.2.1,()) with
       |none=>none
       |some cB=>
        bif decide (cB.1=0) then
         some (.inl (d.1,d.2.1,(i64.wrap (d.2.2.1+1)),cB.2.2.2.2.1,cB.2.2.2.2.2.1,d.2.2.2.2.2.1,ah.2.1,d.2.2.2.2.2.2.2.1,cB.2.2.2.2.2.2.1,()))
        else
         bif decide (cB.1=1) then
          some (.inr (.inl (d.1,cB.2.2.2.2.1,cB.2.2.2.2.2.1,())))
         else none
     else none
  else none
 else
  some (.inr (.inr (d.2.2.2.1,d.2.2.2.2.1,d.2.2.2.2.2.2.2.2.1,())))
def Ix (cS:nh->N (aj×bZ×Int×G)) (d:Ku):N ((aj×bZ×Int×G)⊕(bZ×Int×aj×G)):=b4 (u6 cS) d
def CU (cS:nh->N (aj×bZ×Int×G)) (d:nh):N (aj×bZ×Int×G):=
 match Iw cS ([],d.2.2.1,((d.2.2.1.length):Int),0,d.2.2.2.1,d.2.2.2.2.1,d.1,d.2.1,[],()) with
 |none=>none
 |some (.inl z0)=>
  match Ac (z0.2.2.2.1,z0.2.2.2.2.1,()) with
  |none=>none
  |some ah=>
   match Ix cS (z0.1,((ah.1.length):Int),0,z0.2.1,z0.2.2.1,z0.2.2.2.1,z0.2.2.2.2.2.1,ah.1,[],()) with
   |none=>none
   |some (.inl z2)=>
    some (z2.1,z2.2.1,z2.2.2.1,())
   |some (.inr z2)=>
    some (z2.2.2.1,z2.1,z2.2.1,())
 |some (.inr z0)=>
  none
def qU:Nat->nh->N (aj×bZ×Int×G)
 |0,_=>none
 |n+1,d=>CU (qU n) d
def IH (d:nh):N (aj×bZ×Int×G):=qU kZ d
def IC (d:b5×Int×aj×G):N (Bool×Int×aj×G):=
 bif decide (d.2.1=0) then
  bif decide (d.2.1=0) then
   bif (decide ((d.2.2.1.length+List.length ([d.1]:aj))*40<=bp)) then
    let t0:aj:=(d.2.2.1++([d.1]:aj))
    some (true,0,t0,())
   else none
  else none
 else none
def Ir (d:TT):N (uk⊕(mF⊕mF)):=
 bif d.2.2.1 then
  some (.inr (.inl (d.2.2.2.1,d.2.2.2.2.1,d.2.2.2.2.2.1,d.2.2.2.2.2.2.1,d.2.2.2.2.2.2.2.1,d.2.2.2.2.2.2.2.2.1,d.2.2.2.2.2.2.2.2.2.2.1,())))
 else
  some (.inl (d.1,(i64.wrap (d.2.1+1)),d.2.2.2.1,d.2.2.2.2.1,d.2.2.2.2.2.1,d.2.2.2.2.2.2.1,d.2.2.2.2.2.2.2.1,d.2.2.2.2.2.2.2.2.1,d.2.2.2.2.2.2.2.2.2.1,d.2.2.2.2.2.2.2.2.2.2.1,()))
def u5 (d:uk):N (uk⊕(mF⊕mF)):=
 bif decide (d.2.1<d.1) then
  bif decide (0<=d.2.1)&&decide (d.2.1<(d.2.2.2.2.2.2.2.2.1.length:Int)) then
   let t0:=(d.2.2.2.2.2.2.2.2.1.getD (d.2.1.toNat) ([],([],(0,()))))
   let t1:=(!decide (d.2.2.2.2.2.2.2.1=0))
   bif !t1 then
    match IC (t0,d.2.2.1,d.2.2.2.2.2.2.2.2.2.1,()) with
    |none=>none
    |some aJ=>
     Ir (d.1,d.2.1,(!aJ.1),aJ.2.1,d.2.2.2.1,d.2.2.2.2.1,d.2.2.2.2.2.1,d.2.2.2.2.2.2.1,d.2.2.2.2.2.2.2.1,d.2.2.2.2.2.2.2.2.1,aJ.2.2.1,())
   else
    Ir (d.1,d.2.1,true,d.2.2.1,d.2.2.2.1,d.2.2.2.2.1,d.2.2.2.2.2.1,d.2.2.2.2.2.2.1,d.2.2.2.2.2.2.2.1,d.2.2.2.2.2.2.2.2.1,d.2.2.2.2.2.2.2.2.2.1,())
  else none
 else
  some (.inr (.inr (d.2.2.1,d.2.2.2.1,d.2.2.2.2.1,d.2.2.2.2.2.1,d.2.2.2.2.2.2.1,d.2.2.2.2.2.2.2.1,d.2.2.2.2.2.2.2.2.2.1,())))
def xP:=b4 u5
def vb (d:Int×Int×aK×aq×bZ×Int×G):N mF:=
 match kr (d.2.2.2.2.1,d.2.1,()) with
 |none=>none
 |some Q=>
  bif (!decide (Q.2.1=0)) then
   some (d.1,d.2.1,d.2.2.1,d.2.2.2.1,d.2.2.2.2.1,Q.2.1,[],())
  else
   match tT (Q.1,()) with
   |none=>none
   |some ah=>
    bif !ah.1 then
     match IH (Q.1,d.2.2.1,d.2.2.2.1,d.2.2.2.2.1,d.2.2.2.2.2.1,()) with
     |none=>none
     |some aJ=>
      match w2 (aJ.1,Q.1.2.2.2.2.1,()) with
      |none=>none
      |some bR=>
       match ze (bR.1,d.2.2.2.1,()) with
       |none=>none
       |some cB=>
        match xP (((cB.1.length):Int),0,d.1,d.2.1,d.2.2.1,d.2.2.2.1,aJ.2.1,aJ.2.2.1,cB.1,[],()) with
        |none=>none
        |some (.inl z5)=>
         some (z5.1,z5.2.1,z5.2.2.1,z5.2.2.2.1,z5.2.2.2.2.1,z5.2.2.2.2.2.1,z5.2.2.2.2.2.2.1,())
        |some (.inr z5)=>
         some (z5.1,z5.2.1,z5.2.2.1,z5.2.2.2.1,z5.2.2.2.2.1,z5.2.2.2.2.2.1,z5.2.2.2.2.2.2.1,())
    else
     match ze (Q.1.1,d.2.2.2.1,()) with
     |none=>none
     |some aJ=>
      match xP (((aJ.1.length):Int),0,d.1,d.2.1,d.2.2.1,d.2.2.2.1,d.2.2.2.2.1,d.2.2.2.2.2.1,aJ.1,[],()) with
      |none=>none
      |some (.inl z3)=>
       some (z3.1,z3.2.1,z3.2.2.1,z3.2.2.2.1,z3.2.2.2.2.1,z3.2.2.2.2.2.1,z3.2.2.2.2.2.2.1,())
      |some (.inr z3)=>
       some (z3.1,z3.2.1,z3.2.2.1,z3.2.2.2.1,z3.2.2.2.2.1,z3.2.2.2.2.2.1,z3.2.2.2.2.2.2.1,())
def lR (d:c4×aK×G):N (Int×aj×G):=
 match qV (d.1.2.1,([],([],())),([d.2.1]:aq),d.1.1,0,()) with
 |none=>none
 |some Q=>
  match vb (0,Q.2.2.1,Q.2.2.2.1,Q.2.2.2.2.1,Q.1,Q.2.1,()) with
  |none=>none
  |some ah=>
   bif decide (ah.1=0) then
    let t2:=(!decide (ah.2.2.2.2.2.1=0))
    bif t2 then
     some (ah.2.2.2.2.2.1,[],())
    else
     some (0,ah.2.2.2.2.2.2.1,())
   else
    bif decide (ah.1=1) then
     some (0,[],())
    else none
def DH (d:aj×aj×Int×G):N ((aj×aj×Int×G)⊕((Bool×G)⊕G)):=
 let t0:=(decide (d.2.2.1<((d.1.length):Int)))
 bif t0 then
  bif decide (0<=d.2.2.1)&&decide (d.2.2.1<(d.1.length:Int)) then
   let t1:=(d.1.getD (d.2.2.1.toNat) ([],([],(0,()))))
   bif decide (0<=d.2.2.1)&&decide (d.2.2.1<(d.2.1.length:Int)) then
    let t2:=(d.2.1.getD (d.2.2.1.toNat) ([],([],(0,()))))
    let t3:=(!(aB.eqb bs t1 t2))
    bif t3 then
     some (.inr (.inl (false,())))
    else
     some (.inl (d.1,d.2.1,(i64.wrap (d.2.2.1+1)),()))
   else none
  else none
 else
  some (.inr (.inr (())))
def L7:=b4 DH
def wh (d:zQ):N (Bool×G):=
 let t0:=(!decide ((((d.1.length):Int):Int)=((d.2.1.length):Int)))
 bif t0 then
  some (false,())
 else
  match L7 (d.1,d.2.1,0,()) with
  |none=>none
  |some (.inl aG)=>
   some (aG.1,())
  |some (.inr aG)=>
   some (true,())
def C8 (d:Int×Int×List kK×G):N ((Int×Int×List kK×G)⊕((Bool×G)⊕G)):=
 bif decide (d.2.1<d.1) then
  bif decide (0<=d.2.1)&&decide (d.2.1<(d.2.2.1.length:Int)) then
   let t0:=(d.2.2.1.getD (d.2.1.toNat) (0,(0,())))
   bif (!(decide (t0.1<0))) then
    bif (!(decide (t0.1>t0.2.1))) then
     let t1:=decide (t0.2.1>1000000000000000)
     bif t1 then
      some (.inr (.inl (false,())))
     else
      some (.inl (d.1,(i64.wrap (d.2.1+1)),d.2.2.1,()))
    else
     some (.inr (.inl (false,())))
   else
    some (.inr (.inl (false,())))
  else none
 else
  some (.inr (.inr (())))
def S9:=b4 C8
def JM (d:eQ×G):N (Bool×G):=
 let t0:Int:=((List.length ([d.1.1,d.1.2.1]:List kK)):Int)
 match S9 (t0,0,([d.1.1,d.1.2.1]:List kK),()) with
 |none=>none
 |some (.inl aG)=>
  some (aG.1,())
 |some (.inr aG)=>
  some (true,())
def Dv (d:aj×Int×G):N ((aj×Int×G)⊕((Bool×G)⊕G)):=
 let t0:=(decide (d.2.1<((d.1.length):Int)))
 bif t0 then
  bif (decide (0<=(i64.wrap (d.2.1-1)))&&decide (((i64.wrap (d.2.1-1)):Int)<(d.1.length:Int))) then
   let t1:=(d.1.getD (Int.toNat (i64.wrap (d.2.1-1))) ([],([],(0,()))))
   bif decide (0<=d.2.1)&&decide (d.2.1<(d.1.length:Int)) then
    let t2:=(d.1.getD (d.2.1.toNat) ([],([],(0,()))))
    bif (!(Op.bytesLess t1.1 t2.1)) then
     some (.inr (.inl (false,())))
    else
     some (.inl (d.1,(i64.wrap (d.2.1+1)),()))
   else none
  else none
 else
  some (.inr (.inr (())))
def LG:=b4 Dv
def acl (d:aj×G):N (Bool×G):=
 match LG (d.1,1,()) with
 |none=>none
 |some (.inl z0)=>
  some (z0.1,())
 |some (.inr z0)=>
  some (true,())
def JL (d:b5×G):N (Bool×G):=
 let t0:=(decide ((((d.1.1.length):Int):Int)>=1))
 bif t0 then
  let t1:=(decide ((((d.1.1.length):Int):Int)<=65535))
  bif t1 then
   let t2:=(decide ((((d.1.2.1.length):Int):Int)<=64))
   bif t2 then
    bif decide (d.1.2.2.1>=0) then
     let t3:=decide (d.1.2.2.1<=1000000000)
     some (t3,())
    else
     some (false,())
   else
    some (false,())
  else
   some (false,())
 else
  some (false,())
def MH (d:b5×aK×G):N (Bool×aK×G):=
 match JL (d.1,()) with
 |none=>none
 |some Q=>
  bif (!(!Q.1)) then
   match pC (d.2.1,d.1.1,()) with
   |none=>none
   |some ah=>
    some ((!ah.1),d.2.1,())
  else
   some (true,d.2.1,())
def BJ (d:aj×Int×Int×aK×G):N ((aj×Int×Int×aK×G)⊕((Int×aK×G)⊕(aK×G))):=
 bif decide (d.2.2.1<d.2.1) then
  bif decide (0<=d.2.2.1)&&decide (d.2.2.1<(d.1.length:Int)) then
   let t0:=(d.1.getD (d.2.2.1.toNat) ([],([],(0,()))))
   match MH (t0,d.2.2.2.1,()) with
   |none=>none
   |some ah=>
    bif ah.1 then
     some (.inr (.inl (d.2.2.1,ah.2.1,())))
    else
     some (.inl (d.1,d.2.1,(i64.wrap (d.2.2.1+1)),ah.2.1,()))
  else none
 else
  some (.inr (.inr (d.2.2.2.1,())))
def PY:=b4 BJ
def P7 (d:wL):N (Int×aK×G):=
 match PY (d.1,((d.1.length):Int),0,d.2.1,()) with
 |none=>none
 |some (.inl z0)=>
  some (z0.1,z0.2.1,())
 |some (.inr z0)=>
  some ((-1:Int),z0.1,())
def P5 (d:wL):N (Bool×aK×G):=
 match P7 (d.1,d.2.1,()) with
 |none=>none
 |some Q=>
  some ((decide (Q.1>=0)),Q.2.1,())
def L1 (d:bB×G):N (aq×G):=
 some ([],())
def LW (d:bB×G):N (aq×G):=
 some ([],())
def K2 (d:bB×G):N (aq×G):=
 some ([],())
def K4 (d:bB×G):N (aq×G):=
 match mr (d.1.2.2.2.2.1,()) with
 |none=>none
 |some Q=>
  some (([Q.1]:aq),())
def Tn (d:bB×G):N (aq×G):=
 match mr (d.1.2.2.2.2.1,()) with
 |none=>none
 |some Q=>
  some (([Q.1]:aq),())
def Ts (d:bB×G):N (aq×G):=
 some (([d.1.2.2.2.1]:aq),())
def rL (d:bB×G):N (aq×G):=
 bif decide (d.1.1=1) then
  match L1 (d.1,()) with
  |none=>none
  |some Q=>
   some (Q.1,())
 else
  bif decide (d.1.1=2) then
   match LW (d.1,()) with
   |none=>none
   |some Q=>
    some (Q.1,())
  else
   bif decide (d.1.1=3) then
    match K2 (d.1,()) with
    |none=>none
    |some Q=>
     some (Q.1,())
   else
    bif decide (d.1.1=4) then
     match K4 (d.1,()) with
     |none=>none
     |some Q=>
      some (Q.1,())
    else
     bif decide (d.1.1=5) then
      match Tn (d.1,()) with
      |none=>none
      |some Q=>
       some (Q.1,())
     else
      bif decide (d.1.1=6) then
       match Ts (d.1,()) with
       |none=>none
       |some Q=>
        some (Q.1,())
      else
       some ([],())
def lc (d:uq):N (Bool×G):=
 match k8 (d.2.1,()) with
 |none=>none
 |some Q=>
  bif !Q.1 then
   match pC (d.1,d.2.1.1,()) with
   |none=>none
   |some ah=>
    bif ah.1 then
     match pZ (d.1.2.1,d.2.1.2.1,()) with
     |none=>none
     |some aJ=>
      some ((decide (aJ.1>=0)),())
    else
     some (false,())
  else
   some (true,())
def DY (d:uq):N (Bool×aK×G):=
 match lc (d.2.1,d.1,()) with
 |none=>none
 |some Q=>
  some ((!Q.1),d.2.1,())
def BM (d:aq×Int×Int×aK×G):N ((aq×Int×Int×aK×G)⊕((Int×aK×G)⊕(aK×G))):=
 bif decide (d.2.2.1<d.2.1) then
  bif decide (0<=d.2.2.1)&&decide (d.2.2.1<(d.1.length:Int)) then
   let t0:=(d.1.getD (d.2.2.1.toNat) ([],([],())))
   match DY (t0,d.2.2.2.1,()) with
   |none=>none
   |some ah=>
    bif ah.1 then
     some (.inr (.inl (d.2.2.1,ah.2.1,())))
    else
     some (.inl (d.1,d.2.1,(i64.wrap (d.2.2.1+1)),ah.2.1,()))
  else none
 else
  some (.inr (.inr (d.2.2.2.1,())))
def PD:=b4 BM
def P9 (d:r7):N (Int×aK×G):=
 match PD (d.1,((d.1.length):Int),0,d.2.1,()) with
 |none=>none
 |some (.inl z0)=>
  some (z0.1,z0.2.1,())
 |some (.inr z0)=>
  some ((-1:Int),z0.1,())
def Hd (d:r7):N (Bool×aK×G):=
 match P9 (d.1,d.2.1,()) with
 |none=>none
 |some Q=>
  some ((decide (Q.1>=0)),Q.2.1,())
def BO (d:EO):N (EO⊕((Int×aq×aK×G)⊕r7)):=
 bif decide (d.2.1<d.1) then
  bif decide (0<=d.2.1)&&decide (d.2.1<(d.2.2.1.length:Int)) then
   let t0:=(d.2.2.1.getD (d.2.1.toNat) ([],([],())))
   match DY (t0,d.2.2.2.1,()) with
   |none=>none
   |some ah=>
    bif ah.1 then
     some (.inr (.inl (d.2.1,d.2.2.1,ah.2.1,())))
    else
     some (.inl (d.1,(i64.wrap (d.2.1+1)),d.2.2.1,ah.2.1,()))
  else none
 else
  some (.inr (.inr (d.2.2.1,d.2.2.2.1,())))
def PE:=b4 BO
def Qa (d:r7):N (Int×aq×aK×G):=
 match PE (((d.1.length):Int),0,d.1,d.2.1,()) with
 |none=>none
 |some (.inl z0)=>
  some (z0.1,z0.2.1,z0.2.2.1,())
 |some (.inr z0)=>
  some ((-1:Int),z0.1,z0.2.1,())
def He (d:r7):N (Bool×aq×aK×G):=
 match Qa (d.1,d.2.1,()) with
 |none=>none
 |some Q=>
  some ((decide (Q.1>=0)),Q.2.1,Q.2.2.1,())
def JV (d:bB×aK×G):N (Bool×aK×G):=
 match qm (d.1,()) with
 |none=>none
 |some Q=>
  bif (!(!Q.1)) then
   match rL (d.1,()) with
   |none=>none
   |some ah=>
    match Hd (ah.1,d.2.1,()) with
    |none=>none
    |some aJ=>
     bif !aJ.1 then
      match qi (d.1,()) with
      |none=>none
      |some bR=>
       match He (bR.1,aJ.2.1,()) with
       |none=>none
       |some cB=>
        some (cB.1,cB.2.2.1,())
     else
      some (true,aJ.2.1,())
  else
   some (true,d.2.1,())
def Bv (d:cG×Int×Int×aK×G):N ((cG×Int×Int×aK×G)⊕((Int×aK×G)⊕(aK×G))):=
 bif decide (d.2.2.1<d.2.1) then
  bif decide (0<=d.2.2.1)&&decide (d.2.2.1<(d.1.length:Int)) then
   let t0:=(d.1.getD (d.2.2.1.toNat) (0,([],([],(([],([],())),([],([],(0,()))))))))
   match JV (t0,d.2.2.2.1,()) with
   |none=>none
   |some ah=>
    bif ah.1 then
     some (.inr (.inl (d.2.2.1,ah.2.1,())))
    else
     some (.inl (d.1,d.2.1,(i64.wrap (d.2.2.1+1)),ah.2.1,()))
  else none
 else
  some (.inr (.inr (d.2.2.2.1,())))
def Qf:=b4 Bv
def io (d:cG×aK×G):N (Int×aK×G):=
 match Qf (d.1,((d.1.length):Int),0,d.2.1,()) with
 |none=>none
 |some (.inl z0)=>
  some (z0.1,z0.2.1,())
 |some (.inr z0)=>
  some ((-1:Int),z0.1,())
def Hz (d:cG×aK×G):N (Bool×aK×G):=
 match io (d.1,d.2.1,()) with
 |none=>none
 |some Q=>
  some ((decide (Q.1>=0)),Q.2.1,())
def vM (d:TX):N (TX⊕((Bool×G)⊕zP)):=
 bif decide (d.2.2.2.1<d.2.2.1) then
  bif decide (0<=d.2.2.2.1)&&decide (d.2.2.2.1<(d.2.1.length:Int)) then
   let t0:=(d.2.1.getD (d.2.2.2.1.toNat) [])
   let t1:=(Op.bytesLess t0 d.1||decide ((t0:M)=d.1))
   bif !t1 then
    let t2:=(!decide ((d.2.2.2.2.2.1.2.1:M)=[]))
    bif t2 then
     bif (!(Op.bytesLess t0 d.2.2.2.2.2.1.2.1)) then
      some (.inr (.inl (false,())))
     else
      let t3:=i64.wrap (d.2.2.2.1+1)
      some (.inl (t0,d.2.1,d.2.2.1,t3,d.2.2.2.2.1,d.2.2.2.2.2.1,()))
    else
     let t3:=i64.wrap (d.2.2.2.1+1)
     some (.inl (t0,d.2.1,d.2.2.1,t3,d.2.2.2.2.1,d.2.2.2.2.2.1,()))
   else
    some (.inr (.inl (false,())))
  else none
 else
  some (.inr (.inr (d.2.2.2.2.1,d.2.2.2.2.2.1,())))
def L4:=b4 vM
def DG (d:Uq):N (Uq⊕((Bool×G)⊕zP)):=
 bif decide (d.2.2.1<d.2.1) then
  bif decide (0<=d.2.2.1)&&decide (d.2.2.1<(d.1.length:Int)) then
   let t0:=(d.1.getD (d.2.2.1.toNat) 0)
   bif (!(decide (t0<0))) then
    bif (!(decide (t0>=4096))) then
     bif decide (0<=d.2.2.1)&&decide (d.2.2.1<(d.2.2.2.1.2.2.2.1.length:Int)) then
      let t1:=(d.2.2.2.1.2.2.2.1.getD (d.2.2.1.toNat) ((0,(0,())),((0,(0,())),())))
      match JM (t1,()) with
      |none=>none
      |some aJ=>
       bif !aJ.1 then
        some (.inr (.inl (false,())))
       else
        some (.inl (d.1,d.2.1,(i64.wrap (d.2.2.1+1)),d.2.2.2.1,d.2.2.2.2.1,()))
     else none
    else
     some (.inr (.inl (false,())))
   else
    some (.inr (.inl (false,())))
  else none
 else
  some (.inr (.inr (d.2.2.2.1,d.2.2.2.2.1,())))
def L5:=b4 DG
def JK (d:Bool×cZ×aK×G):N (Bool×G):=
 bif d.1 then
  some (false,())
 else
  match L4 (d.2.2.1.1,d.2.1.2.1,((d.2.1.2.1.length):Int),0,d.2.1,d.2.2.1,()) with
  |none=>none
  |some (.inl z0)=>
   some (z0.1,())
  |some (.inr z0)=>
   match L5 (z0.1.2.2.1,((z0.1.2.2.1.length):Int),0,z0.1,z0.2.1,()) with
   |none=>none
   |some (.inl aG)=>
    some (aG.1,())
   |some (.inr aG)=>
    match Hz (aG.1.2.2.2.2.1,aG.2.1,()) with
    |none=>none
    |some aJ=>
     some ((!aJ.1),())
def zo (d:zP):N (Bool×G):=
 let t0:=(decide ((((d.1.2.2.1.length):Int):Int)=0))
 bif t0 then
  let t1:=(i64.wrap (((d.1.2.1.length):Int)+((d.1.2.2.2.1.length):Int)))
  let t2:=(i64.wrap (t1+((d.1.2.2.2.2.1.length):Int)))
  bif decide (t2=0) then
   match acl (d.1.1,()) with
   |none=>none
   |some bR=>
    bif bR.1 then
     match P5 (d.1.1,d.2.1,()) with
     |none=>none
     |some cB=>
      some ((!cB.1),())
    else
     some (false,())
  else
   some (false,())
 else
  let t1:=(decide ((((d.1.1.length):Int):Int)>0))
  bif !t1 then
   let t2:=(!decide ((((d.1.2.2.2.1.length):Int):Int)=((d.1.2.2.1.length):Int)))
   bif !t2 then
    let t3:=(i64.wrap (((d.1.2.2.1.length):Int)-1))
    let t4:=(!decide ((((d.1.2.1.length):Int):Int)=t3))
    JK (t4,d.1,d.2.1,())
   else
    JK (true,d.1,d.2.1,())
  else
   JK (true,d.1,d.2.1,())
def tz (d:n7):N (Int×Int×Int×Int×G):=
 let t0:Int:=(if ((i64.wrap (d.2.2.1+d.1)):Int)<0 then 0 else (i64.wrap (d.2.2.1+d.1)))
 let t1:Int:=(if (1000000000000000:Int)<t0 then 1000000000000000 else t0)
 let t2:Int:=(if (1000000000000000:Int)<(i64.wrap (d.2.2.2.1+d.2.1)) then 1000000000000000 else (i64.wrap (d.2.2.2.1+d.2.1)))
 some (t1,t2,d.2.2.2.2.1,d.2.2.2.2.2.1,())
def tc (d:n7):N (Int×Int×Int×Int×G):=
 let t0:Int:=(if ((i64.wrap (d.2.2.2.2.1+d.1)):Int)<0 then 0 else (i64.wrap (d.2.2.2.2.1+d.1)))
 let t1:Int:=(if (1000000000000000:Int)<t0 then 1000000000000000 else t0)
 let t2:=i64.wrap (d.2.2.2.2.2.1+d.2.1)
 let t3:Int:=(if (1000000000000000:Int)<t2 then 1000000000000000 else t2)
 some (d.2.2.1,d.2.2.2.1,t1,t3,())
def R8 (d:iF):N (Int×G):=some ((fun a c=>Lib.indexByte a c.toNat.toUInt8) d.1 d.2.1,())
def Vp (d:iF):N (Int×G):=
 match R8 (d.1,d.2.1,()) with
 |none=>none
 |some Q=>
  some (Q.1,())
def ag0 (d:Int×G):N (Bool×G):=
 bif decide ((0:Int)<=d.1) then
  bif decide (d.1<55296) then
   some (true,())
  else
   bif decide ((57343:Int)<d.1) then
    bif decide (d.1<=1114111) then
     some (true,())
    else
     some (false,())
   else
    some (false,())
 else
  bif decide ((57343:Int)<d.1) then
   bif decide (d.1<=1114111) then
    some (true,())
   else
    some (false,())
  else
   some (false,())
def ahi (d:iF):N (iF⊕((Int×G)⊕G)):=
 bif decide (d.2.1<(d.1.length:Int)) then
  let t0:=(decide (((oS d.1 d.2.1).1:Int)=65533))
  bif t0 then
   some (.inr (.inl (d.2.1,())))
  else
   some (.inl (d.1,(d.2.1+(oS d.1 d.2.1).2),()))
 else
  some (.inr (.inr (())))
def ahl:=b4 ahi
def ahk (d:KG):N (Int×G):=
 bif d.2.2.1 then
  match Vp (d.1,(IntKind.u8.wrap d.2.1),()) with
  |none=>none
  |some Q=>
   some (Q.1,())
 else
  bif decide (d.2.1=65533) then
   match ahl (d.1,0,()) with
   |none=>none
   |some (.inl z0)=>
    some (z0.1,())
   |some (.inr z0)=>
    some ((-1:Int),())
  else
   match ag0 (d.2.1,()) with
   |none=>none
   |some Q=>
    bif !Q.1 then
     some ((-1:Int),())
    else none
def I4 (d:iF):N (Int×G):=
 bif decide ((0:Int)<=d.2.1) then
  ahk (d.1,d.2.1,(decide (d.2.1<128)),())
 else
  ahk (d.1,d.2.1,false,())
def agF (d:Int×G):N (Bool×G):=
 some ((decide (d.1>8)),())
def ag4 (d:b5):N (b5⊕((Int×G)⊕G)):=
 bif decide (d.2.2.1<(d.2.1.length:Int)) then
  match I4 (d.1,(oS d.2.1 d.2.2.1).1,()) with
  |none=>none
  |some Q=>
   bif decide (Q.1>=0) then
    some (.inr (.inl (d.2.2.1,())))
   else
    some (.inl (d.1,d.2.1,(d.2.2.1+(oS d.2.1 d.2.2.1).2),()))
 else
  some (.inr (.inr (())))
def ag6:=b4 ag4
def SO (d:aK):N (Int×G):=
 let t0:=decide ((d.2.1:M)=[])
 bif t0 then
  some ((-1:Int),())
 else
  let t1:=(decide ((((d.2.1.length):Int):Int)=1))
  bif t1 then
   bif decide ((0:Int)<(d.2.1.length:Int)) then
    let t2:=(IntKind.i32.wrap ((d.2.1.getD 0 0).toNat:Int))
    bif decide (t2>=128) then
     match I4 (d.1,65533,()) with
     |none=>none
     |some bR=>
      some (bR.1,())
    else
     match I4 (d.1,t2,()) with
     |none=>none
     |some bR=>
      some (bR.1,())
   else none
  else
   match agF (((d.1.length):Int),()) with
   |none=>none
   |some aJ=>
    bif aJ.1 then
     none
    else
     match ag6 (d.2.1,d.1,0,()) with
     |none=>none
     |some (.inl z3)=>
      some (z3.1,())
     |some (.inr z3)=>
      some ((-1:Int),())
def V9 (d:aK):N (Int×G):=Dd (SO d) (AO d)
def Xd (d:zS):N (M×Int×M×M×Int×Int×M×G):=
 match V9 (d.1,([1,2,3]:M),()) with
 |none=>none
 |some Q=>
  bif decide (Q.1<0) then
   some ([],0,d.1,d.2.1,d.2.2.1,d.2.2.2.1,d.2.2.2.2.1,())
  else
   bif decide ((0:Int)<=Q.1)&&decide (Q.1<=(d.1.length:Int)) then
    let t1:=(List.drop 0 (List.take (Q.1.toNat) d.1))
    bif decide (0<=Q.1)&&decide (Q.1<(d.1.length:Int)) then
     let t2:Int:=((d.1.getD (Q.1.toNat) 0).toNat:Int)
     bif (decide (0<=(i64.wrap (Q.1+1)))&&decide (((i64.wrap (Q.1+1)):Int)<=(d.1.length:Int))&&decide (((d.1.length:Int):Int)<=(d.1.length:Int))) then
      let t3:=(List.drop (Int.toNat (i64.wrap (Q.1+1))) (List.take (Int.toNat (d.1.length:Int)) d.1))
      some (t1,t2,t3,d.2.1,d.2.2.1,d.2.2.2.1,d.2.2.2.2.1,())
     else none
    else none
   else none
def Vn (d:T1):N zS:=
 bif d.2.1 then
  bif decide ((0:Int)<(d.2.2.1.length:Int)) then
   let t0:=i64.wrap ((d.2.2.1.getD 0 0).toNat:Int)
   let t1:=(i64.wrap (t0*2^(min (Int.toNat 8) i64.bits)))
   bif decide ((1:Int)<(d.2.2.1.length:Int)) then
    let t2:Int:=((d.2.2.1.getD (Int.toNat 1) 0).toNat:Int)
    let t3:=(i64.wrap ((BitVec.ofInt i64.bits t1 ||| BitVec.ofInt i64.bits (i64.wrap t2)).toNat:Int))
    some (d.2.2.1,d.2.2.2.1,d.2.2.2.2.1,t3,d.2.2.2.2.2.2.1,())
   else none
  else none
 else
  bif decide (d.1=3) then
   some (d.2.2.1,d.2.2.2.1,d.2.2.2.2.1,d.2.2.2.2.2.1,d.2.2.1,())
  else
   some (d.2.2.1,d.2.2.2.1,d.2.2.2.2.1,d.2.2.2.2.2.1,d.2.2.2.2.2.2.1,())
def U1 (d:T1):N zS:=
 bif d.2.1 then
  some (d.2.2.1,d.2.2.2.1,4,d.2.2.2.2.2.1,d.2.2.2.2.2.2.1,())
 else
  bif decide (d.1=2) then
   let t0:=(decide ((((d.2.2.1.length):Int):Int)=2))
   Vn (d.1,t0,d.2.2.1,d.2.2.2.1,d.2.2.2.2.1,d.2.2.2.2.2.1,d.2.2.2.2.2.2.1,())
  else
   Vn (d.1,false,d.2.2.1,d.2.2.2.1,d.2.2.2.2.1,d.2.2.2.2.2.1,d.2.2.2.2.2.2.1,())
def WW (d:zS):N zS:=
 match I3 (d.1,([6]:M),()) with
 |none=>none
 |some Q=>
  match Xd (Q.1,d.2.1,d.2.2.1,d.2.2.2.1,d.2.2.2.2.1,()) with
  |none=>none
  |some ah=>
   bif Q.2.1 then
    U1 (ah.2.1,(decide (ah.2.1=1)),ah.2.2.1,ah.1,(i64.wrap ah.2.1),ah.2.2.2.2.2.1,ah.2.2.2.2.2.2.1,())
   else
    U1 (ah.2.1,false,ah.2.2.1,ah.1,(i64.wrap ah.2.1),ah.2.2.2.2.2.1,ah.2.2.2.2.2.2.1,())
def agn (d:M×M×Int×Bool×G):N (Int×G):=
 bif d.2.2.2.1 then
  some (0,())
 else
  bif decide (d.2.2.1=1) then
   bif decide ((0:Int)<(d.2.1.length:Int)) then
    match R8 (d.1,((d.2.1.getD 0 0).toNat:Int),()) with
    |none=>none
    |some Q=>
     some (Q.1,())
   else none
  else
   let t0:=(decide (d.2.2.1>=((d.1.length):Int)))
   bif t0 then
    some ((-1:Int),())
   else none
def agt (d:aK):N (Int×G):=
 let t0:=(decide ((((d.2.1.length):Int):Int)=0))
 bif !t0 then
  agn (d.1,d.2.1,((d.2.1.length):Int),(decide ((d.2.1:M)=d.1)),())
 else
  agn (d.1,d.2.1,((d.2.1.length):Int),true,())
def agB (d:aK):N zR:=
 match agt (d.1,d.2.1,()) with
 |none=>none
 |some Q=>
  bif decide (Q.1>=0) then
   bif decide ((0:Int)<=Q.1)&&decide (Q.1<=(d.1.length:Int)) then
    let t1:=(List.drop 0 (List.take (Q.1.toNat) d.1))
    let t2:=(i64.wrap (Q.1+((d.2.1.length):Int)))
    bif (decide (0<=t2)&&decide (t2<=(d.1.length:Int))&&decide (((d.1.length:Int):Int)<=(d.1.length:Int))) then
     let t3:=(List.drop (t2.toNat) (List.take (Int.toNat (d.1.length:Int)) d.1))
     some (t1,t3,true,())
    else none
   else none
  else
   some (d.1,[],false,())
def aaj (d:aK):N zR:=
 match agB (d.1,d.2.1,()) with
 |none=>none
 |some Q=>
  some (Q.1,Q.2.1,Q.2.2.1,())
def Y3 (d:Int×G):N (Bool×G):=
 bif (!(decide (d.1<33))) then
  bif (!(decide (d.1>126))) then
   some ((decide (d.1=47)),())
  else
   some (true,())
 else
  some (true,())
def ahm (d:Bool×M×Int×G):N ((Bool×M×Int×G)⊕((Int×G)⊕G)):=
 bif decide (d.2.2.1<(d.2.1.length:Int)) then
  match Y3 ((oS d.2.1 d.2.2.1).1,()) with
  |none=>none
  |some Q=>
   bif (Q.1==d.1) then
    some (.inr (.inl (d.2.2.1,())))
   else
    some (.inl (d.1,d.2.1,(d.2.2.1+(oS d.2.1 d.2.2.1).2),()))
 else
  some (.inr (.inr (())))
def aho:=b4 ahm
def Vt (d:wM):N (Int×G):=
 match aho (d.2.1,d.1,0,()) with
 |none=>none
 |some (.inl z0)=>
  some (z0.1,())
 |some (.inr z0)=>
  some ((-1:Int),())
def Vq (d:M×G):N (Int×G):=
 match Vt (d.1,true,()) with
 |none=>none
 |some Q=>
  some (Q.1,())
def Nf (d:M×G):N (Bool×G):=
 let t0:=decide ((d.1:M)=[])
 bif !t0 then
  let t1:=(decide ((((d.1.length):Int):Int)>12))
  bif !t1 then
   let t2:=decide ((d.1:M)=([46]:M))
   bif !t2 then
    let t3:=decide ((d.1:M)=([46,46]:M))
    bif t3 then
     some (false,())
    else
     match Vq (d.1,()) with
     |none=>none
     |some cB=>
      some ((decide (cB.1<0)),())
   else
    some (false,())
  else
   some (false,())
 else
  some (false,())
def YZ (d:M×G):N ((M×G)⊕((Bool×G)⊕G)):=
 let t0:=(!decide ((d.1:M)=[]))
 bif t0 then
  match aaj (d.1,([47]:M),()) with
  |none=>none
  |some ah=>
   bif (!(!ah.2.2.1)) then
    match Nf (ah.1,()) with
    |none=>none
    |some aJ=>
     bif !aJ.1 then
      some (.inr (.inl (false,())))
     else
      some (.inl (ah.2.1,()))
   else
    some (.inr (.inl (false,())))
 else
  some (.inr (.inr (())))
def Y1:=b4 YZ
def NN (d:M×G):N (Bool×G):=
 match Y1 (d.1,()) with
 |none=>none
 |some (.inl z0)=>
  some (z0.1,())
 |some (.inr z0)=>
  some (true,())
def ags (d:KG):N (iF⊕((M×G)⊕G)):=
 bif d.2.2.1 then
  let t0:=(i64.wrap (((d.1.length):Int)-1))
  bif decide ((0:Int)<=t0)&&decide (t0<=(d.1.length:Int)) then
   let t1:=(List.drop 0 (List.take (t0.toNat) d.1))
   some (.inl (t1,d.2.1,()))
  else none
 else
  some (.inr (.inl (d.1,())))
def agO (d:iF):N (iF⊕((M×G)⊕G)):=
 let t0:=(decide ((((d.1.length):Int):Int)>0))
 bif t0 then
  let t1:=(i64.wrap (((d.1.length):Int)-1))
  bif decide (0<=t1)&&decide (t1<(d.1.length:Int)) then
   let t2:Int:=((d.1.getD (t1.toNat) 0).toNat:Int)
   ags (d.1,d.2.1,(decide (t2=d.2.1)),())
  else none
 else
  ags (d.1,d.2.1,false,())
def agQ:=b4 agO
def ag7 (d:iF):N (M×G):=
 match agQ (d.1,d.2.1,()) with
 |none=>none
 |some (.inl z0)=>
  some (z0.1,())
 |some (.inr z0)=>
  none
def agy (d:KG):N (iF⊕((M×G)⊕G)):=
 bif d.2.2.1 then
  bif (decide ((1:Int)<=(d.1.length:Int))&&decide (((d.1.length:Int):Int)<=(d.1.length:Int))) then
   let t0:=(List.drop (Int.toNat 1) (List.take (Int.toNat (d.1.length:Int)) d.1))
   some (.inl (t0,d.2.1,()))
  else none
 else
  some (.inr (.inl (d.1,())))
def agW (d:iF):N (iF⊕((M×G)⊕G)):=
 let t0:=(decide ((((d.1.length):Int):Int)>0))
 bif t0 then
  bif decide ((0:Int)<(d.1.length:Int)) then
   let t1:=(decide ((((d.1.getD 0 0).toNat:Int):Int)=d.2.1))
   agy (d.1,d.2.1,t1,())
  else none
 else
  agy (d.1,d.2.1,false,())
def agY:=b4 agW
def ahp (d:iF):N (M×G):=
 match agY (d.1,d.2.1,()) with
 |none=>none
 |some (.inl z0)=>
  some (z0.1,())
 |some (.inr z0)=>
  none
def Vs (d:zR):N (M×G):=
 bif d.2.2.1 then
  bif decide ((0:Int)<(d.2.1.length:Int)) then
   match ag7 (d.1,((d.2.1.getD 0 0).toNat:Int),()) with
   |none=>none
   |some Q=>
    bif decide ((0:Int)<(d.2.1.length:Int)) then
     match ahp (Q.1,((d.2.1.getD 0 0).toNat:Int),()) with
     |none=>none
     |some ah=>
      some (ah.1,())
    else none
  else none
 else none
def Vr (d:zR):N (M×G):=
 bif d.2.2.1 then
  some (d.1,())
 else
  let t0:=(decide ((((d.2.1.length):Int):Int)=1))
  bif t0 then
   bif decide ((0:Int)<(d.2.1.length:Int)) then
    let t1:=(decide ((((d.2.1.getD 0 0).toNat:Int):Int)<128))
    Vs (d.1,d.2.1,t1,())
   else none
  else
   Vs (d.1,d.2.1,false,())
def LD (d:aK):N (M×G):=
 let t0:=decide ((d.1:M)=[])
 bif !t0 then
  let t1:=decide ((d.2.1:M)=[])
  Vr (d.1,d.2.1,t1,())
 else
  Vr (d.1,d.2.1,true,())
def ZU (d:aK):N (M×G):=Dd (LD d) (AI d)
def Jz (d:wM):N (Bool×G):=
 bif d.2.1 then
  some (false,())
 else
  bif decide ((9:Int)<=(d.1.length:Int)) then
   let t0:=(List.drop (Int.toNat 1) (List.take (Int.toNat 9) d.1))
   match ZU (t0,([48,49,50,51,52,53,54,55,56,57,97,98,99,100,101,102]:M),()) with
   |none=>none
   |some ah=>
    let t2:=decide ((ah.1:M)=[])
    some (t2,())
  else none
def Z3 (d:M×G):N (Bool×G):=
 let t0:=(!decide ((((d.1.length):Int):Int)=10))
 bif !t0 then
  bif decide ((0:Int)<(d.1.length:Int)) then
   let t1:=(!decide ((((d.1.getD 0 0).toNat:Int):Int)=5))
   bif !t1 then
    bif decide ((1:Int)<(d.1.length:Int)) then
     let t2:Int:=((d.1.getD (Int.toNat 1) 0).toNat:Int)
     bif (!(decide (t2>55))) then
      bif decide ((9:Int)<(d.1.length:Int)) then
       let t3:Int:=((d.1.getD (Int.toNat 9) 0).toNat:Int)
       Jz (d.1,(!decide (t3=47)),())
      else none
     else
      Jz (d.1,true,())
    else none
   else
    Jz (d.1,true,())
  else none
 else
  Jz (d.1,true,())
def vA (d:Bool×jZ×G):N (G⊕iF):=
 bif d.1 then
  bif decide (List.length ([6]:M)+d.2.1.1.length<=bp) then
   bif (decide (List.length (([6]:M)++d.2.1.1)+List.length ([1]:M)<=bp)) then
    let t0:M:=((([6]:M)++d.2.1.1)++([1]:M))
    some (.inr (t0,0,()))
   else none
  else none
 else
  some (.inl (()))
def s0 (d:EU):N (G⊕iF):=
 bif d.1 then
  bif decide (d.2.1.1.length+List.length ([3]:M)<=bp) then
   bif (decide (List.length (d.2.1.1++([3]:M))+d.2.1.2.2.2.1.length<=bp)) then
    let t0:M:=((d.2.1.1++([3]:M))++d.2.1.2.2.2.1)
    some (.inr (t0,0,()))
   else none
  else none
 else
  bif decide (d.2.1.2.1=4) then
   let t0:=(aB.eqb hr d.2.1 (d.2.2.1,(d.2.2.2.1,(d.2.2.2.2.1,(d.2.2.2.2.2.1,())))))
   match vA (t0,d.2.1,()) with
   |none=>none
   |some (.inl aG)=>
    some (.inl (()))
   |some (.inr aG)=>
    some (.inr (aG.1,aG.2.1,()))
  else
   match vA (false,d.2.1,()) with
   |none=>none
   |some (.inl z0)=>
    some (.inl (()))
   |some (.inr z0)=>
    some (.inr (z0.1,z0.2.1,()))
def qW (d:EU):N (G⊕iF):=
 bif d.1 then
  let t0:Int:=(Int.fdiv d.2.1.2.2.1 (2^(min (Int.toNat 8) i64.bits)))
  let t1:M:=(tZ ([2,(IntKind.u8.wrap t0),(IntKind.u8.wrap d.2.1.2.2.1)]:dR))
  bif decide (d.2.1.1.length+t1.length<=bp) then
   some (.inr ((d.2.1.1++t1),0,()))
  else none
 else
  bif decide (d.2.1.2.1=3) then
   let t0:=decide (d.2.1.2.2.1=0)
   bif t0 then
    match Nf (d.2.1.2.2.2.1,()) with
    |none=>none
    |some ah=>
     match s0 (ah.1,d.2.1,d.2.2.1,d.2.2.2.1,d.2.2.2.2.1,d.2.2.2.2.2.1,()) with
     |none=>none
     |some (.inl z2)=>
      some (.inl (()))
     |some (.inr z2)=>
      some (.inr (z2.1,z2.2.1,()))
   else
    match s0 (false,d.2.1,d.2.2.1,d.2.2.2.1,d.2.2.2.2.1,d.2.2.2.2.2.1,()) with
    |none=>none
    |some (.inl aG)=>
     some (.inl (()))
    |some (.inr aG)=>
     some (.inr (aG.1,aG.2.1,()))
  else
   match s0 (false,d.2.1,d.2.2.1,d.2.2.2.1,d.2.2.2.2.1,d.2.2.2.2.2.1,()) with
   |none=>none
   |some (.inl z0)=>
    some (.inl (()))
   |some (.inr z0)=>
    some (.inr (z0.1,z0.2.1,()))
def kw (d:EU):N (G⊕iF):=
 bif d.1 then
  bif decide (d.2.1.1.length+List.length ([1]:M)<=bp) then
   some (.inr ((d.2.1.1++([1]:M)),0,()))
  else none
 else
  bif decide (d.2.1.2.1=2) then
   let t0:=decide ((d.2.1.2.2.2.1:M)=[])
   bif t0 then
    let t1:=decide (d.2.1.2.2.1>=0)
    bif t1 then
     let t2:=decide (d.2.1.2.2.1<=60000)
     match qW (t2,d.2.1,d.2.2.1,d.2.2.2.1,d.2.2.2.2.1,d.2.2.2.2.2.1,()) with
     |none=>none
     |some (.inl z3)=>
      some (.inl (()))
     |some (.inr z3)=>
      some (.inr (z3.1,z3.2.1,()))
    else
     match qW (false,d.2.1,d.2.2.1,d.2.2.2.1,d.2.2.2.2.1,d.2.2.2.2.2.1,()) with
     |none=>none
     |some (.inl z2)=>
      some (.inl (()))
     |some (.inr z2)=>
      some (.inr (z2.1,z2.2.1,()))
   else
    match qW (false,d.2.1,d.2.2.1,d.2.2.2.1,d.2.2.2.2.1,d.2.2.2.2.2.1,()) with
    |none=>none
    |some (.inl aG)=>
     some (.inl (()))
    |some (.inr aG)=>
     some (.inr (aG.1,aG.2.1,()))
  else
   match qW (false,d.2.1,d.2.2.1,d.2.2.2.1,d.2.2.2.2.1,d.2.2.2.2.2.1,()) with
   |none=>none
   |some (.inl z0)=>
    some (.inl (()))
   |some (.inr z0)=>
    some (.inr (z0.1,z0.2.1,()))
def s3 (d:EU):N (G⊕iF):=
 bif d.1 then
  bif decide (d.2.1.2.1=1) then
   let t0:=(aB.eqb hr d.2.1 (d.2.2.1,(d.2.2.2.1,(d.2.2.2.2.1,(d.2.2.2.2.2.1,())))))
   match kw (t0,d.2.1,d.2.2.1,d.2.2.2.1,d.2.2.2.2.1,d.2.2.2.2.2.1,()) with
   |none=>none
   |some (.inl aG)=>
    some (.inl (()))
   |some (.inr aG)=>
    some (.inr (aG.1,aG.2.1,()))
  else
   match kw (false,d.2.1,d.2.2.1,d.2.2.2.1,d.2.2.2.2.1,d.2.2.2.2.2.1,()) with
   |none=>none
   |some (.inl z0)=>
    some (.inl (()))
   |some (.inr z0)=>
    some (.inr (z0.1,z0.2.1,()))
 else
  some (.inl (()))
def ab6 (d:jZ×G):N iF:=
 match NN (d.1.1,()) with
 |none=>none
 |some Q=>
  bif !Q.1 then
   match Z3 (d.1.1,()) with
   |none=>none
   |some ah=>
    bif ah.1 then
     match s3 ((!decide (d.1.2.1=4)),d.1,d.1.1,d.1.2.1,0,[],()) with
     |none=>none
     |some (.inl z2)=>
      some ([],12,())
     |some (.inr z2)=>
      some (z2.1,z2.2.1,())
    else
     match s3 (false,d.1,d.1.1,d.1.2.1,0,[],()) with
     |none=>none
     |some (.inl z2)=>
      some ([],12,())
     |some (.inr z2)=>
      some (z2.1,z2.2.1,())
  else
   match s3 (true,d.1,d.1.1,d.1.2.1,0,[],()) with
   |none=>none
   |some (.inl aG)=>
    some ([],12,())
   |some (.inr aG)=>
    some (aG.1,aG.2.1,())
def pw (d:M×G):N (jZ×Int×G):=
 match WW (d.1,[],0,0,[],()) with
 |none=>none
 |some Q=>
  match ab6 ((Q.2.1,(Q.2.2.1,(Q.2.2.2.1,(Q.2.2.2.2.1,())))),()) with
  |none=>none
  |some ah=>
   bif (!(!decide (ah.2.1=0))) then
    bif (!decide ((ah.1:M)=d.1)) then
     some (([],(0,(0,([],())))),12,())
    else
     some ((Q.2.1,(Q.2.2.1,(Q.2.2.2.1,(Q.2.2.2.2.1,())))),0,())
   else
    some (([],(0,(0,([],())))),12,())
def zn (d:n7):N (Int×Int×Int×Int×G):=
 match tz (d.1,d.2.1,d.2.2.1,d.2.2.2.1,d.2.2.2.2.1,d.2.2.2.2.2.1,()) with
 |none=>none
 |some Q=>
  match tc (d.1,d.2.1,Q.1,Q.2.1,Q.2.2.1,Q.2.2.2.1,()) with
  |none=>none
  |some ah=>
   some (ah.1,ah.2.1,ah.2.2.1,ah.2.2.2.1,())
def FO (d:M×G):N (Int×G):=
 let t0:=decide ((d.1:M)=[])
 bif t0 then
  some (0,())
 else
  bif decide ((0:Int)<(d.1.length:Int)) then
   let t1:=(decide ((((d.1.getD 0 0).toNat:Int):Int)=6))
   bif t1 then
    some (6,())
   else
    match NN (d.1,()) with
    |none=>none
    |some aJ=>
     bif aJ.1 then
      some (1,())
     else
      bif decide (d.1.length+List.length ([1]:M)<=bp) then
       match pw ((d.1++([1]:M)),()) with
       |none=>none
       |some bR=>
        bif decide (bR.2.1=0) then
         bif decide ((bR.1.1:M)=d.1) then
          some (5,())
         else
          some (0,())
        else
         some (0,())
      else none
  else none
def Ad (d:aK):N (Bool×G):=
 match FO (d.1,()) with
 |none=>none
 |some Q=>
  bif (!decide (Q.1=0)) then
   match FO (d.1,()) with
   |none=>none
   |some ah=>
    match FO (d.2.1,()) with
    |none=>none
    |some aJ=>
     some ((decide (ah.1=aJ.1)),())
  else
   some (false,())
def Kb (d:b5×G):N tM:=
 match pw (d.1.1,()) with
 |none=>none
 |some Q=>
  bif (!decide (Q.2.1=0)) then
   some ((0,(0,())),())
  else
   bif decide (Q.1.2.1=1) then
    some ((1,(0,())),())
   else
    bif decide (Q.1.2.1=4) then
     some ((0,(0,())),())
    else
     some ((0,(((d.1.2.1.length):Int),())),())
def Dj (d:Uo):N (Uo⊕((Int×Int×Int×Int×G)⊕G)):=
 bif decide (d.2.2.1<d.2.1) then
  bif decide (0<=d.2.2.1)&&decide (d.2.2.1<(d.1.length:Int)) then
   let t0:=(d.1.getD (d.2.2.1.toNat) ([],([],(0,()))))
   match Kb (t0,()) with
   |none=>none
   |some ah=>
    let t2:=i64.wrap (d.2.2.2.2.2.1+ah.1.1)
    let t3:=i64.wrap (d.2.2.2.2.2.2.1+ah.1.2.1)
    some (.inl (d.1,d.2.1,(i64.wrap (d.2.2.1+1)),d.2.2.2.1,d.2.2.2.2.1,t2,t3,()))
  else none
 else
  some (.inr (.inl (d.2.2.2.1,d.2.2.2.2.1,d.2.2.2.2.2.1,d.2.2.2.2.2.2.1,())))
def KY:=b4 Dj
def E6 (d:aj×G):N tM:=
 match KY (d.1,((d.1.length):Int),0,0,0,0,0,()) with
 |none=>none
 |some (.inl z0)=>
  some ((z0.2.2.1,(z0.2.2.2.1,())),())
 |some (.inr z0)=>
  none
def Eg (d:TU):N (TU⊕((cZ×Int×Int×Int×Int×Int×Int×Int×Int×G)⊕G)):=
 bif decide (d.2.2.1<d.2.1) then
  bif decide (0<=d.2.2.1)&&decide (d.2.2.1<(d.1.length:Int)) then
   let t0:=(d.1.getD (d.2.2.1.toNat) ((0,(0,())),((0,(0,())),())))
   match tz (t0.1.1,t0.1.2.1,d.2.2.2.2.2.2.2.2.1,d.2.2.2.2.2.2.2.2.2.1,d.2.2.2.2.2.2.2.2.2.2.1,d.2.2.2.2.2.2.2.2.2.2.2.1,()) with
   |none=>none
   |some ah=>
    match tc (t0.2.1.1,t0.2.1.2.1,ah.1,ah.2.1,ah.2.2.1,ah.2.2.2.1,()) with
    |none=>none
    |some aJ=>
     some (.inl (d.1,d.2.1,(i64.wrap (d.2.2.1+1)),d.2.2.2.1,d.2.2.2.2.1,d.2.2.2.2.2.1,d.2.2.2.2.2.2.1,d.2.2.2.2.2.2.2.1,aJ.1,aJ.2.1,aJ.2.2.1,aJ.2.2.2.1,()))
  else none
 else
  some (.inr (.inl (d.2.2.2.1,d.2.2.2.2.1,d.2.2.2.2.2.1,d.2.2.2.2.2.2.1,d.2.2.2.2.2.2.2.1,d.2.2.2.2.2.2.2.2.1,d.2.2.2.2.2.2.2.2.2.1,d.2.2.2.2.2.2.2.2.2.2.1,d.2.2.2.2.2.2.2.2.2.2.2.1,())))
def Nc:=b4 Eg
def qe (d:cG×Int×Int×Bool×Int×Int×Int×Int×Int×Int×Int×Int×bB×G):N (zK⊕((Int×Int×Int×Int×Int×Int×Int×Int×G)⊕G)):=
 bif d.2.2.2.1 then
  match tz ((-1:Int),0,d.2.2.2.2.2.2.2.2.1,d.2.2.2.2.2.2.2.2.2.1,d.2.2.2.2.2.2.2.2.2.2.1,d.2.2.2.2.2.2.2.2.2.2.2.1,()) with
  |none=>none
  |some Q=>
   some (.inl (d.1,d.2.1,(i64.wrap (d.2.2.1+1)),d.2.2.2.2.1,d.2.2.2.2.2.1,d.2.2.2.2.2.2.1,d.2.2.2.2.2.2.2.1,Q.1,Q.2.1,Q.2.2.1,Q.2.2.2.1,()))
 else
  let t0:=decide (d.2.2.2.2.2.2.2.2.2.2.2.2.1.1=2)
  bif t0 then
   match tc ((-64:Int),0,d.2.2.2.2.2.2.2.2.1,d.2.2.2.2.2.2.2.2.2.1,d.2.2.2.2.2.2.2.2.2.2.1,d.2.2.2.2.2.2.2.2.2.2.2.1,()) with
   |none=>none
   |some ah=>
    some (.inl (d.1,d.2.1,(i64.wrap (d.2.2.1+1)),d.2.2.2.2.1,d.2.2.2.2.2.1,d.2.2.2.2.2.2.1,d.2.2.2.2.2.2.2.1,ah.1,ah.2.1,ah.2.2.1,ah.2.2.2.1,()))
  else
   let t1:=decide (d.2.2.2.2.2.2.2.2.2.2.2.2.1.1=3)
   bif t1 then
    match zn ((-1000000000000000:Int),0,d.2.2.2.2.2.2.2.2.1,d.2.2.2.2.2.2.2.2.2.1,d.2.2.2.2.2.2.2.2.2.2.1,d.2.2.2.2.2.2.2.2.2.2.2.1,()) with
    |none=>none
    |some aJ=>
     some (.inl (d.1,d.2.1,(i64.wrap (d.2.2.1+1)),d.2.2.2.2.1,d.2.2.2.2.2.1,d.2.2.2.2.2.2.1,d.2.2.2.2.2.2.2.1,aJ.1,aJ.2.1,aJ.2.2.1,aJ.2.2.2.1,()))
   else
    let t2:=decide (d.2.2.2.2.2.2.2.2.2.2.2.2.1.1=6)
    bif t2 then
     some (.inl (d.1,d.2.1,(i64.wrap (d.2.2.1+1)),d.2.2.2.2.1,d.2.2.2.2.2.1,d.2.2.2.2.2.2.1,d.2.2.2.2.2.2.2.1,d.2.2.2.2.2.2.2.2.1,d.2.2.2.2.2.2.2.2.2.1,d.2.2.2.2.2.2.2.2.2.2.1,d.2.2.2.2.2.2.2.2.2.2.2.1,()))
    else
     match Ad (d.2.2.2.2.2.2.2.2.2.2.2.2.1.2.2.2.2.1,d.2.2.2.2.2.2.2.2.2.2.2.2.1.2.2.2.2.2.1,()) with
     |none=>none
     |some bR=>
      bif !bR.1 then
       match zn ((-1000000000000000:Int),1000000000000000,d.2.2.2.2.2.2.2.2.1,d.2.2.2.2.2.2.2.2.2.1,d.2.2.2.2.2.2.2.2.2.2.1,d.2.2.2.2.2.2.2.2.2.2.2.1,()) with
       |none=>none
       |some cB=>
        some (.inl (d.1,d.2.1,(i64.wrap (d.2.2.1+1)),d.2.2.2.2.1,d.2.2.2.2.2.1,d.2.2.2.2.2.2.1,d.2.2.2.2.2.2.2.1,cB.1,cB.2.1,cB.2.2.1,cB.2.2.2.1,()))
      else
       let t4:=decide (d.2.2.2.2.2.2.2.2.2.2.2.2.1.1=5)
       bif t4 then
        match tz ((-1000000000000000:Int),d.2.2.2.2.2.2.2.2.2.1,d.2.2.2.2.2.2.2.2.1,d.2.2.2.2.2.2.2.2.2.1,d.2.2.2.2.2.2.2.2.2.2.1,d.2.2.2.2.2.2.2.2.2.2.2.1,()) with
        |none=>none
        |some fX=>
         match tc ((-1000000000000000:Int),fX.2.2.2.1,fX.1,fX.2.1,fX.2.2.1,fX.2.2.2.1,()) with
         |none=>none
         |some jn=>
          some (.inl (d.1,d.2.1,(i64.wrap (d.2.2.1+1)),d.2.2.2.2.1,d.2.2.2.2.2.1,d.2.2.2.2.2.2.1,d.2.2.2.2.2.2.2.1,jn.1,jn.2.1,jn.2.2.1,jn.2.2.2.1,()))
       else
        match zn ((-1000000000000000:Int),0,d.2.2.2.2.2.2.2.2.1,d.2.2.2.2.2.2.2.2.2.1,d.2.2.2.2.2.2.2.2.2.2.1,d.2.2.2.2.2.2.2.2.2.2.2.1,()) with
        |none=>none
        |some fX=>
         some (.inl (d.1,d.2.1,(i64.wrap (d.2.2.1+1)),d.2.2.2.2.1,d.2.2.2.2.2.1,d.2.2.2.2.2.2.1,d.2.2.2.2.2.2.2.1,fX.1,fX.2.1,fX.2.2.1,fX.2.2.2.1,()))
def oi (d:Bool×cG×Int×Int×Bool×Int×Int×Int×Int×Int×Int×Int×Int×bB×G):N (zK⊕((Int×Int×Int×Int×Int×Int×Int×Int×G)⊕G)):=
 bif d.2.2.2.2.1 then
  match tz (0,1,d.2.2.2.2.2.2.2.2.2.1,d.2.2.2.2.2.2.2.2.2.2.1,d.2.2.2.2.2.2.2.2.2.2.2.1,d.2.2.2.2.2.2.2.2.2.2.2.2.1,()) with
  |none=>none
  |some Q=>
   let t1:=i64.wrap (d.2.2.2.1+1)
   some (.inl (d.2.1,d.2.2.1,t1,d.2.2.2.2.2.1,d.2.2.2.2.2.2.1,d.2.2.2.2.2.2.2.1,d.2.2.2.2.2.2.2.2.1,Q.1,Q.2.1,Q.2.2.1,Q.2.2.2.1,()))
 else
  let t0:=decide (d.2.2.2.2.2.2.2.2.2.2.2.2.2.1.1=1)
  bif t0 then
   let t1:Int:=((d.2.2.2.2.2.2.2.2.2.2.2.2.2.1.2.2.1.length):Int)
   match tc ((-64:Int),t1,d.2.2.2.2.2.2.2.2.2.1,d.2.2.2.2.2.2.2.2.2.2.1,d.2.2.2.2.2.2.2.2.2.2.2.1,d.2.2.2.2.2.2.2.2.2.2.2.2.1,()) with
   |none=>none
   |some aJ=>
    let t3:=i64.wrap (d.2.2.2.1+1)
    some (.inl (d.2.1,d.2.2.1,t3,d.2.2.2.2.2.1,d.2.2.2.2.2.2.1,d.2.2.2.2.2.2.2.1,d.2.2.2.2.2.2.2.2.1,aJ.1,aJ.2.1,aJ.2.2.1,aJ.2.2.2.1,()))
  else
   let t1:=decide (d.2.2.2.2.2.2.2.2.2.2.2.2.2.1.1=2)
   bif t1 then
    qe (d.2.1,d.2.2.1,d.2.2.2.1,d.1,d.2.2.2.2.2.1,d.2.2.2.2.2.2.1,d.2.2.2.2.2.2.2.1,d.2.2.2.2.2.2.2.2.1,d.2.2.2.2.2.2.2.2.2.1,d.2.2.2.2.2.2.2.2.2.2.1,d.2.2.2.2.2.2.2.2.2.2.2.1,d.2.2.2.2.2.2.2.2.2.2.2.2.1,d.2.2.2.2.2.2.2.2.2.2.2.2.2.1,())
   else
    qe (d.2.1,d.2.2.1,d.2.2.2.1,false,d.2.2.2.2.2.1,d.2.2.2.2.2.2.1,d.2.2.2.2.2.2.2.1,d.2.2.2.2.2.2.2.2.1,d.2.2.2.2.2.2.2.2.2.1,d.2.2.2.2.2.2.2.2.2.2.1,d.2.2.2.2.2.2.2.2.2.2.2.1,d.2.2.2.2.2.2.2.2.2.2.2.2.1,d.2.2.2.2.2.2.2.2.2.2.2.2.2.1,())
def nq (d:Bool×cG×Int×Int×Int×Int×Int×Int×Int×Int×Int×Int×bB×G):N (zK⊕((Int×Int×Int×Int×Int×Int×Int×Int×G)⊕G)):=
 let t0:=decide (d.2.2.2.2.2.2.2.2.2.2.2.2.1.1=1)
 bif t0 then
  oi (d.1,d.2.1,d.2.2.1,d.2.2.2.1,d.1,d.2.2.2.2.1,d.2.2.2.2.2.1,d.2.2.2.2.2.2.1,d.2.2.2.2.2.2.2.1,d.2.2.2.2.2.2.2.2.1,d.2.2.2.2.2.2.2.2.2.1,d.2.2.2.2.2.2.2.2.2.2.1,d.2.2.2.2.2.2.2.2.2.2.2.1,d.2.2.2.2.2.2.2.2.2.2.2.2.1,())
 else
  oi (d.1,d.2.1,d.2.2.1,d.2.2.2.1,false,d.2.2.2.2.1,d.2.2.2.2.2.1,d.2.2.2.2.2.2.1,d.2.2.2.2.2.2.2.1,d.2.2.2.2.2.2.2.2.1,d.2.2.2.2.2.2.2.2.2.1,d.2.2.2.2.2.2.2.2.2.2.1,d.2.2.2.2.2.2.2.2.2.2.2.1,d.2.2.2.2.2.2.2.2.2.2.2.2.1,())
def tp (d:zK):N (zK⊕((Int×Int×Int×Int×Int×Int×Int×Int×G)⊕G)):=
 bif decide (d.2.2.1<d.2.1) then
  bif decide (0<=d.2.2.1)&&decide (d.2.2.1<(d.1.length:Int)) then
   let t0:=(d.1.getD (d.2.2.1.toNat) (0,([],([],(([],([],())),([],([],(0,()))))))))
   match pw (t0.2.1,()) with
   |none=>none
   |some ah=>
    bif decide (ah.2.1=0) then
     nq ((decide (ah.1.2.1=1)),d.1,d.2.1,d.2.2.1,d.2.2.2.1,d.2.2.2.2.1,d.2.2.2.2.2.1,d.2.2.2.2.2.2.1,d.2.2.2.2.2.2.2.1,d.2.2.2.2.2.2.2.2.1,d.2.2.2.2.2.2.2.2.2.1,d.2.2.2.2.2.2.2.2.2.2.1,t0,())
    else
     nq (false,d.1,d.2.1,d.2.2.1,d.2.2.2.1,d.2.2.2.2.1,d.2.2.2.2.2.1,d.2.2.2.2.2.2.1,d.2.2.2.2.2.2.2.1,d.2.2.2.2.2.2.2.2.1,d.2.2.2.2.2.2.2.2.2.1,d.2.2.2.2.2.2.2.2.2.2.1,t0,())
  else none
 else
  some (.inr (.inl (d.2.2.2.1,d.2.2.2.2.1,d.2.2.2.2.2.1,d.2.2.2.2.2.2.1,d.2.2.2.2.2.2.2.1,d.2.2.2.2.2.2.2.2.1,d.2.2.2.2.2.2.2.2.2.1,d.2.2.2.2.2.2.2.2.2.2.1,())))
def Nd:=b4 tp
def uz (d:cZ×G):N (eQ×G):=
 let t0:=(decide ((((d.1.2.2.1.length):Int):Int)=0))
 bif t0 then
  match E6 (d.1.1,()) with
  |none=>none
  |some ah=>
   some (((ah.1.1,(ah.1.1,())),((ah.1.2.1,(ah.1.2.1,())),())),())
 else
  match Nc (d.1.2.2.2.1,((d.1.2.2.2.1.length):Int),0,d.1,0,0,0,0,0,0,0,0,()) with
  |none=>none
  |some (.inl aG)=>
   match Nd (aG.1.2.2.2.2.1,((aG.1.2.2.2.2.1.length):Int),0,aG.2.1,aG.2.2.1,aG.2.2.2.1,aG.2.2.2.2.1,aG.2.2.2.2.2.1,aG.2.2.2.2.2.2.1,aG.2.2.2.2.2.2.2.1,aG.2.2.2.2.2.2.2.2.1,()) with
   |none=>none
   |some (.inl z2)=>
    some (((z2.2.2.2.2.1,(z2.2.2.2.2.2.1,())),((z2.2.2.2.2.2.2.1,(z2.2.2.2.2.2.2.2.1,())),())),())
   |some (.inr z2)=>
    none
  |some (.inr aG)=>
   none
def I5 (fN:r6->N (Int×G)) (d:Int×Int×Int×Int×Int×bZ×cZ×aq×G):N (ES⊕((Int×G)⊕(Int×G))):=
 bif decide (0<=d.2.1)&&decide (d.2.1<(d.2.2.2.2.2.2.1.2.2.1.length:Int)) then
  let t0:=(d.2.2.2.2.2.2.1.2.2.1.getD (d.2.1.toNat) 0)
  match kr (d.2.2.2.2.2.1,t0,()) with
  |none=>none
  |some ah=>
   match uz (ah.1,()) with
   |none=>none
   |some aJ=>
    bif decide (0<=d.2.1)&&decide (d.2.1<(d.2.2.2.2.2.2.1.2.2.2.1.length:Int)) then
     let t3:=(d.2.2.2.2.2.2.1.2.2.2.1.getD (d.2.1.toNat) ((0,(0,())),((0,(0,())),())))
     let t4:=(!(aB.eqb eA aJ.1 t3))
     bif t4 then
      some (.inr (.inl (0,())))
     else
      let t5:=i64.wrap (d.2.2.2.2.1+1)
      some (.inl (d.1,d.2.2.1,d.2.2.2.1,t5,d.2.2.2.2.2.1,d.2.2.2.2.2.2.1,d.2.2.2.2.2.2.2.1,()))
    else none
 else none
def vJ (fN:r6->N (Int×G)) (d:ES):N (ES⊕((Int×G)⊕(Int×G))):=
 bif decide (d.2.2.2.1<d.2.2.1) then
  bif decide (0<=d.2.2.2.1)&&decide (d.2.2.2.1<(d.2.2.2.2.2.2.1.length:Int)) then
   let t0:=(d.2.2.2.2.2.2.1.getD (d.2.2.2.1.toNat) ([],([],())))
   bif decide (0<=d.2.2.2.1)&&decide (d.2.2.2.1<(d.2.2.2.2.2.1.2.2.1.length:Int)) then
    let t1:=(d.2.2.2.2.2.1.2.2.1.getD (d.2.2.2.1.toNat) 0)
    match fN (d.2.2.2.2.1,t1,t0,(i64.wrap (d.1-1)),()) with
    |none=>none
    |some aJ=>
     bif (!(decide (aJ.1=0))) then
      bif decide (d.2.2.2.1>0) then
       bif (!decide (aJ.1=d.2.1)) then
        some (.inr (.inl (0,())))
       else
        I5 fN (d.1,d.2.2.2.1,aJ.1,d.2.2.1,d.2.2.2.1,d.2.2.2.2.1,d.2.2.2.2.2.1,d.2.2.2.2.2.2.1,())
      else
       I5 fN (d.1,d.2.2.2.1,aJ.1,d.2.2.1,d.2.2.2.1,d.2.2.2.2.1,d.2.2.2.2.2.1,d.2.2.2.2.2.2.1,())
     else
      some (.inr (.inl (0,())))
   else none
  else none
 else
  some (.inr (.inr (d.2.1,())))
def Jx (fN:r6->N (Int×G)) (d:ES):N ((Int×G)⊕(Int×G)):=b4 (vJ fN) d
def ta (fN:r6->N (Int×G)) (d:Int×Bool×bZ×aK×cZ×G):N (Int×G):=
 bif d.2.1 then
  some (0,())
 else
  match tT (d.2.2.2.2.1,()) with
  |none=>none
  |some Q=>
   bif Q.1 then
    some (1,())
   else
    match Ac (d.2.2.2.2.1,d.2.2.2.1,()) with
    |none=>none
    |some ah=>
     match Jx fN (d.1,0,((ah.1.length):Int),0,d.2.2.1,d.2.2.2.2.1,ah.1,()) with
     |none=>none
     |some (.inl z2)=>
      some (z2.1,())
     |some (.inr z2)=>
      some ((i64.wrap (z2.1+1)),())
def ns (fN:r6->N (Int×G)) (d:r6):N (Int×G):=
 match kr (d.1,d.2.1,()) with
 |none=>none
 |some Q=>
  bif (!(!decide (Q.2.1=0))) then
   bif (!(decide (d.2.2.2.1=0))) then
    match zo (Q.1,d.2.2.1,()) with
    |none=>none
    |some ah=>
     ta fN (d.2.2.2.1,(!ah.1),d.1,d.2.2.1,Q.1,())
   else
    ta fN (d.2.2.2.1,true,d.1,d.2.2.1,Q.1,())
  else
   ta fN (d.2.2.2.1,true,d.1,d.2.2.1,Q.1,())
def og:Nat->r6->N (Int×G)
 |0,_=>none
 |n+1,d=>ns (og n) d
def Nq (d:r6):N (Int×G):=og kZ d
def zq (d:c4×G):N (Bool×G):=
 match zr (d.1.2.2.1,()) with
 |none=>none
 |some Q=>
  bif Q.1 then
   match Nq (d.1.1,d.1.2.1,([],([],())),64,()) with
   |none=>none
   |some ah=>
    some ((decide (ah.1>0)),())
  else
   some (false,())
def o8 (fu:EM->N px) (fx:(hi×G)->N ur) (fH:(c4×bB×G)->N ur) (fv:(c4×G)->N (Int×G)) (fF:G->N (c4×G)) (fI:(c4×aK×G)->N (Int×aj×G)) (fG:zQ->N (Bool×G)) (fq:(c4×G)->N (Bool×G)) (d:Bool×Int×Bool×Int×Bool×c4×b5×aj×c4×G):N ((Bool×G)⊕G):=
 bif d.2.2.2.2.1 then
  let t0:=(aB.eqb bs d.2.2.2.2.2.2.1 (([99,47,120]:M),(([49]:M),(0,()))))
  bif t0 then
   bif d.1 then
    bif decide (d.2.1=2) then
     bif !d.2.2.1 then
      bif decide (d.2.2.2.1=1) then
       match fG (d.2.2.2.2.2.2.2.1,([(([99,47,120]:M),(([49]:M),(0,())))]:aj),()) with
       |none=>none
       |some ah=>
        bif ah.1 then
         match fq (d.2.2.2.2.2.1,()) with
         |none=>none
         |some aJ=>
          bif aJ.1 then
           match fq (d.2.2.2.2.2.2.2.2.1,()) with
           |none=>none
           |some bR=>
            bif bR.1 then
             match fv (d.2.2.2.2.2.1,()) with
             |none=>none
             |some cB=>
              bif decide (cB.1=2) then
               match fv (d.2.2.2.2.2.2.2.2.1,()) with
               |none=>none
               |some fX=>
                bif decide (fX.1=1) then
                 match fq ((([],()),(0,((0,(0,(0,()))),()))),()) with
                 |none=>none
                 |some jn=>
                  some (.inl ((!jn.1),()))
                else
                 some (.inl (false,()))
              else
               some (.inl (false,()))
            else
             some (.inl (false,()))
          else
           some (.inl (false,()))
        else
         some (.inl (false,()))
      else
       some (.inl (false,()))
     else
      some (.inl (false,()))
    else
     some (.inl (false,()))
   else
    some (.inl (false,()))
  else
   some (.inl (false,()))
 else
  some (.inl (false,()))
def S0 (fu:EM->N px) (fx:(hi×G)->N ur) (fH:(c4×bB×G)->N ur) (fv:(c4×G)->N (Int×G)) (fF:G->N (c4×G)) (fI:(c4×aK×G)->N (Int×aj×G)) (fG:zQ->N (Bool×G)) (fq:(c4×G)->N (Bool×G)) (d:G):N (Bool×G):=
 match fF (()) with
 |none=>none
 |some Q=>
  match fu (Q.1,([99,47,120]:M),()) with
  |none=>none
  |some ah=>
   match fu (Q.1,([97,47,120]:M),()) with
   |none=>none
   |some aJ=>
    match fI (Q.1,([],([],())),()) with
    |none=>none
    |some bR=>
     match fx ((1,(2,(1,()))),()) with
     |none=>none
     |some cB=>
      match fH (Q.1,(0,([],([],(([],([],())),([],([],(0,()))))))),()) with
      |none=>none
      |some fX=>
       match fx (Q.1.2.2.1,()) with
       |none=>none
       |some jn=>
        let t7:=decide (ah.2.2.2.1=0)
        bif t7 then
         let t8:=decide (aJ.2.2.2.1=0)
         bif t8 then
          bif decide (bR.1=0) then
           bif decide (cB.2.1=120) then
            bif decide (fX.2.1=50) then
             match o8 fu fx fH fv fF fI fG fq (ah.2.1,ah.2.2.1,aJ.2.1,aJ.2.2.1,(decide (jn.2.1=0)),Q.1,ah.1,bR.2.1,jn.1,()) with
             |none=>none
             |some (.inl z9)=>
              some (z9.1,())
             |some (.inr z9)=>
              none
            else
             match o8 fu fx fH fv fF fI fG fq (ah.2.1,ah.2.2.1,aJ.2.1,aJ.2.2.1,false,Q.1,ah.1,bR.2.1,jn.1,()) with
             |none=>none
             |some (.inl z9)=>
              some (z9.1,())
             |some (.inr z9)=>
              none
           else
            match o8 fu fx fH fv fF fI fG fq (ah.2.1,ah.2.2.1,aJ.2.1,aJ.2.2.1,false,Q.1,ah.1,bR.2.1,jn.1,()) with
            |none=>none
            |some (.inl z9)=>
             some (z9.1,())
            |some (.inr z9)=>
             none
          else
           match o8 fu fx fH fv fF fI fG fq (ah.2.1,ah.2.2.1,aJ.2.1,aJ.2.2.1,false,Q.1,ah.1,bR.2.1,jn.1,()) with
           |none=>none
           |some (.inl z9)=>
            some (z9.1,())
           |some (.inr z9)=>
            none
         else
          match o8 fu fx fH fv fF fI fG fq (ah.2.1,ah.2.2.1,aJ.2.1,aJ.2.2.1,false,Q.1,ah.1,bR.2.1,jn.1,()) with
          |none=>none
          |some (.inl z9)=>
           some (z9.1,())
          |some (.inr z9)=>
           none
        else
         match o8 fu fx fH fv fF fI fG fq (ah.2.1,ah.2.2.1,aJ.2.1,aJ.2.2.1,false,Q.1,ah.1,bR.2.1,jn.1,()) with
         |none=>none
         |some (.inl n0)=>
          some (n0.1,())
         |some (.inr n0)=>
          none
def MC (d:G):N (Bool×G):=S0 pF OI qu Np M9 lR wh zq d
def I1 (d:dR×Int×Bool×bZ×List Bool×G):N (KE⊕((List Bool×G)⊕G)):=
 bif d.2.2.1 then
  bif decide (0<=d.2.1)&&decide (d.2.1<(d.2.2.2.2.1.length:Int)) then
   let t0:=(List.set d.2.2.2.2.1 (d.2.1.toNat) true)
   bif (decide ((List.length ([]:dR)+d.1.length)*8<=bp)) then
    bif decide (0<=d.2.1)&&decide (d.2.1<(d.2.2.2.1.1.length:Int)) then
     let t1:=(d.2.2.2.1.1.getD (d.2.1.toNat) (false,(false,(0,(([],([],([],([],([],()))))),())))))
     bif (decide ((List.length ([]++d.1)+t1.2.2.2.1.2.2.1.length)*8<=bp)) then
      let t2:dR:=(([]++d.1)++t1.2.2.2.1.2.2.1)
      some (.inl (t2,d.2.2.2.1,t0,()))
     else none
    else none
   else none
  else none
 else
  some (.inl (d.1,d.2.2.2.1,d.2.2.2.2.1,()))
def s7 (d:KE):N (KE⊕((List Bool×G)⊕G)):=
 let t0:=(decide ((((d.1.length):Int):Int)>0))
 bif t0 then
  bif decide ((0:Int)<(d.1.length:Int)) then
   bif (decide ((1:Int)<=(d.1.length:Int))&&decide (((d.1.length:Int):Int)<=(d.1.length:Int))) then
    let t1:=(List.drop (Int.toNat 1) (List.take (Int.toNat (d.1.length:Int)) d.1))
    match wi (d.2.1,(d.1.getD 0 0),()) with
    |none=>none
    |some aJ=>
     bif aJ.1 then
      bif (decide (0<=(d.1.getD 0 0))&&decide (((d.1.getD 0 0):Int)<(d.2.2.1.length:Int))) then
       let t3:=(d.2.2.1.getD (Int.toNat (d.1.getD 0 0)) false)
       I1 (t1,(d.1.getD 0 0),(!t3),d.2.1,d.2.2.1,())
      else none
     else
      I1 (t1,(d.1.getD 0 0),false,d.2.1,d.2.2.1,())
   else none
  else none
 else
  some (.inr (.inl (d.2.2.1,())))
def Lz:=b4 s7
def yD (d:Int×List Bool×dR×G):N ((Int×List Bool×dR×G)⊕((dR×G)⊕G)):=
 let t0:=(decide (d.1<((d.2.1.length):Int)))
 bif t0 then
  bif decide (0<=d.1)&&decide (d.1<(d.2.1.length:Int)) then
   bif (d.2.1.getD (d.1.toNat) false) then
    bif (decide ((d.2.2.1.length+List.length ([d.1]:dR))*8<=bp)) then
     some (.inl ((i64.wrap (d.1+1)),d.2.1,(d.2.2.1++([d.1]:dR)),()))
    else none
   else
    some (.inl ((i64.wrap (d.1+1)),d.2.1,d.2.2.1,()))
  else none
 else
  some (.inr (.inl (d.2.2.1,())))
def LA:=b4 yD
def Fb (d:bZ×dR×G):N (dR×G):=
 bif (decide (0<=((d.1.1.length):Int))&&decide ((((d.1.1.length):Int):Int)<=((d.1.1.length):Int))&&decide (((d.1.1.length):Int)*1<=(bp:Int))) then
  bif (decide ((List.length ([]:dR)+d.2.1.length)*8<=bp)) then
   match Lz ((([]:dR)++d.2.1),d.1,(List.replicate (Int.toNat ((d.1.1.length):Int)) false),()) with
   |none=>none
   |some (.inl z0)=>
    match LA (0,z0.1,[],()) with
    |none=>none
    |some (.inl aG)=>
     some (aG.1,())
    |some (.inr aG)=>
     none
   |some (.inr z0)=>
    none
  else none
 else none
def Fy (d:ur):N (Int×hi×cN×G):=
 match Fb (d.1.1,([d.1.2.1]:dR),()) with
 |none=>none
 |some Q=>
  bif (decide (((Q.1.length):Int)=0)) then
   none
  else
   let t1:Int:=(Int.tmod (i64.wrap d.2.1) ((Q.1.length):Int))
   bif decide (0<=t1)&&decide (t1<(Q.1.length:Int)) then
    let t2:=(Q.1.getD (t1.toNat) 0)
    bif (decide ((List.length ([]:cN)+d.1.1.1.length)*136<=bp)) then
     let t3:cN:=([]++d.1.1.1)
     bif decide (0<=t2)&&decide (t2<(t3.length:Int)) then
      let t4:=(List.set t3 (t2.toNat) ((t3.getD (t2.toNat) (false,(false,(0,(([],([],([],([],([],()))))),()))))).1,(true,(t3.getD (t2.toNat) (false,(false,(0,(([],([],([],([],([],()))))),()))))).2.2)))
      bif decide (0<=t2)&&decide (t2<(t4.length:Int)) then
       let t5:=(List.set t4 (t2.toNat) ((t4.getD (t2.toNat) (false,(false,(0,(([],([],([],([],([],()))))),()))))).1,((t4.getD (t2.toNat) (false,(false,(0,(([],([],([],([],([],()))))),()))))).2.1,((t4.getD (t2.toNat) (false,(false,(0,(([],([],([],([],([],()))))),()))))).2.2.1,(([],([],([],([],([],()))))),(t4.getD (t2.toNat) (false,(false,(0,(([],([],([],([],([],()))))),()))))).2.2.2.2)))))
       some (d.1.2.1,d.1.2.2.1,t5,())
      else none
     else none
    else none
   else none
def YT (d:Int×bc×G):N ((Int×bc×G)⊕((bc×G)⊕G)):=
 bif decide (d.1<20) then
  match rN (d.1,()) with
  |none=>none
  |some Q=>
   match rN (d.1,()) with
   |none=>none
   |some ah=>
    bif decide (List.length ([99,47]:M)+ah.1.length<=bp) then
     match rN (d.1,()) with
     |none=>none
     |some aJ=>
      bif (decide ((2:Int)<=(aJ.1.length:Int))&&decide (((aJ.1.length:Int):Int)<=(aJ.1.length:Int))) then
       let t3:=(List.drop (Int.toNat 2) (List.take (Int.toNat (aJ.1.length:Int)) aJ.1))
       bif decide (List.length ([100,47]:M)+t3.length<=bp) then
        bif (decide ((d.2.1.length+List.length ([Q.1,(([99,47]:M)++ah.1),(([100,47]:M)++t3)]:bc))*16<=bp)) then
         let t4:bc:=(d.2.1++([Q.1,(([99,47]:M)++ah.1),(([100,47]:M)++t3)]:bc))
         some (.inl ((IntKind.u8.wrap (d.1+1)),t4,()))
        else none
       else none
      else none
    else none
 else
  some (.inr (.inl (d.2.1,())))
def YV:=b4 YT
def we (d:G):N (bc×G):=
 match YV (0,([[],([97]:M),([97,47,98]:M),([99,47,98,47,1]:M),([100,47,98,47,2,0,1]:M),([122,122]:M)]:bc),()) with
 |none=>none
 |some (.inl z0)=>
  some (z0.1,())
 |some (.inr z0)=>
  none
def An (d:EM):N (px×G):=
 match pF (d.1,d.2.1,()) with
 |none=>none
 |some Q=>
  some ((Q.1,(Q.2.1,(Q.2.2.1,(Q.2.2.2.1,())))),())
def As (d:KI):N (Bool×G):=
 bif (!(Op.bytesLess d.2.1 d.1.1)) then
  let t0:=decide ((d.1.2.1:M)=[])
  bif !t0 then
   some ((Op.bytesLess d.2.1 d.1.2.1),())
  else
   some (true,())
 else
  some (false,())
def IG (d:pM):N (pM⊕((Bool×b5×aj×G)⊕G)):=
 bif decide (0<=d.2.2.1)&&decide (d.2.2.1<(d.1.length:Int)) then
  let t0:=(d.1.getD (d.2.2.1.toNat) ([],([],(0,()))))
  let t1:=(!decide ((t0.1:M)=d.2.2.2.1.1))
  bif t1 then
   bif decide (0<=d.2.2.1)&&decide (d.2.2.1<(d.1.length:Int)) then
    let t2:=(d.1.getD (d.2.2.1.toNat) ([],([],(0,()))))
    bif (decide ((d.2.2.2.2.1.length+List.length ([t2]:aj))*40<=bp)) then
     let t3:aj:=(d.2.2.2.2.1++([t2]:aj))
     some (.inl (d.1,d.2.1,(i64.wrap (d.2.2.1+1)),d.2.2.2.1,t3,()))
    else none
   else none
  else
   some (.inl (d.1,d.2.1,(i64.wrap (d.2.2.1+1)),d.2.2.2.1,d.2.2.2.2.1,()))
 else none
def i9 (d:Up):N (pM⊕((Bool×b5×aj×G)⊕G)):=
 bif d.2.2.2.1 then
  bif (decide ((d.2.2.2.2.2.1.length+List.length ([d.2.2.2.2.1]:aj))*40<=bp)) then
   let t0:aj:=(d.2.2.2.2.2.1++([d.2.2.2.2.1]:aj))
   IG (d.1,true,d.2.2.1,d.2.2.2.2.1,t0,())
  else none
 else
  IG (d.1,d.2.1,d.2.2.1,d.2.2.2.2.1,d.2.2.2.2.2.1,())
def vD (d:pM):N (pM⊕((Bool×b5×aj×G)⊕G)):=
 let t0:=(decide (d.2.2.1<((d.1.length):Int)))
 bif t0 then
  bif !d.2.1 then
   bif decide (0<=d.2.2.1)&&decide (d.2.2.1<(d.1.length:Int)) then
    let t1:=(d.1.getD (d.2.2.1.toNat) ([],([],(0,()))))
    let t2:=(Op.bytesLess d.2.2.2.1.1 t1.1||decide ((d.2.2.2.1.1:M)=t1.1))
    i9 (d.1,d.2.1,d.2.2.1,t2,d.2.2.2.1,d.2.2.2.2.1,())
   else none
  else
   i9 (d.1,d.2.1,d.2.2.1,false,d.2.2.2.1,d.2.2.2.2.1,())
 else
  some (.inr (.inl (d.2.1,d.2.2.2.1,d.2.2.2.2.1,())))
def W4:=b4 vD
def wt (d:aj×b5×G):N (aj×G):=
 match W4 (d.1,false,0,d.2.1,[],()) with
 |none=>none
 |some (.inl z0)=>
  bif !z0.1 then
   bif (decide ((z0.2.2.1.length+List.length ([z0.2.1]:aj))*40<=bp)) then
    let t1:aj:=(z0.2.2.1++([z0.2.1]:aj))
    some (t1,())
   else none
  else
   some (z0.2.2.1,())
 |some (.inr z0)=>
  none
def Ek (d:aq×M×Int×G):N ((aq×M×Int×G)⊕((Bool×G)⊕G)):=
 let t0:=(decide (d.2.2.1<((d.1.length):Int)))
 bif t0 then
  bif decide (0<=d.2.2.1)&&decide (d.2.2.1<(d.1.length:Int)) then
   let t1:=(d.1.getD (d.2.2.1.toNat) ([],([],())))
   match As (t1,d.2.1,()) with
   |none=>none
   |some aJ=>
    bif aJ.1 then
     some (.inr (.inl (true,())))
    else
     some (.inl (d.1,d.2.1,(i64.wrap (d.2.2.1+1)),()))
  else none
 else
  some (.inr (.inr (())))
def aae:=b4 Ek
def F1 (d:aq×M×G):N (Bool×G):=
 match aae (d.1,d.2.1,0,()) with
 |none=>none
 |some (.inl z0)=>
  some (z0.1,())
 |some (.inr z0)=>
  some (false,())
def Db (d:EN):N (EN⊕((aj×G)⊕G)):=
 let t0:=(decide (d.2.2.1<((d.1.length):Int)))
 bif t0 then
  bif decide (0<=d.2.2.1)&&decide (d.2.2.1<(d.1.length:Int)) then
   let t1:=(d.1.getD (d.2.2.1.toNat) ([],([],(0,()))))
   match F1 (d.2.1,t1.1,()) with
   |none=>none
   |some aJ=>
    bif !aJ.1 then
     bif decide (0<=d.2.2.1)&&decide (d.2.2.1<(d.1.length:Int)) then
      let t3:=(d.1.getD (d.2.2.1.toNat) ([],([],(0,()))))
      bif (decide ((d.2.2.2.1.length+List.length ([t3]:aj))*40<=bp)) then
       let t4:aj:=(d.2.2.2.1++([t3]:aj))
       some (.inl (d.1,d.2.1,(i64.wrap (d.2.2.1+1)),t4,()))
      else none
     else none
    else
     some (.inl (d.1,d.2.1,(i64.wrap (d.2.2.1+1)),d.2.2.2.1,()))
  else none
 else
  some (.inr (.inl (d.2.2.2.1,())))
def V5:=b4 Db
def vN (d:wP):N (aj×G):=
 match V5 (d.1,d.2.1,0,[],()) with
 |none=>none
 |some (.inl z0)=>
  some (z0.1,())
 |some (.inr z0)=>
  none
def Df (d:EN):N (EN⊕((aj×G)⊕G)):=
 let t0:=(decide (d.2.2.1<((d.1.length):Int)))
 bif t0 then
  bif decide (0<=d.2.2.1)&&decide (d.2.2.1<(d.1.length:Int)) then
   let t1:=(d.1.getD (d.2.2.1.toNat) ([],([],(0,()))))
   match F1 (d.2.1,t1.1,()) with
   |none=>none
   |some aJ=>
    bif aJ.1 then
     bif decide (0<=d.2.2.1)&&decide (d.2.2.1<(d.1.length:Int)) then
      let t3:=(d.1.getD (d.2.2.1.toNat) ([],([],(0,()))))
      bif (decide ((d.2.2.2.1.length+List.length ([t3]:aj))*40<=bp)) then
       let t4:aj:=(d.2.2.2.1++([t3]:aj))
       some (.inl (d.1,d.2.1,(i64.wrap (d.2.2.1+1)),t4,()))
      else none
     else none
    else
     some (.inl (d.1,d.2.1,(i64.wrap (d.2.2.1+1)),d.2.2.2.1,()))
  else none
 else
  some (.inr (.inl (d.2.2.2.1,())))
def W5:=b4 Df
def JY (d:wP):N (aj×G):=
 match W5 (d.1,d.2.1,0,[],()) with
 |none=>none
 |some (.inl z0)=>
  some (z0.1,())
 |some (.inr z0)=>
  none
def Nt (d:M×M×M×G):N wM:=
 match tf (d.1,d.2.1,()) with
 |none=>none
 |some Q=>
  bif !Q.1 then
   some ([],false,())
  else
   bif (decide (0<=((d.2.1.length):Int))&&decide ((((d.2.1.length):Int):Int)<=(d.1.length:Int))&&decide (((d.1.length:Int):Int)<=(d.1.length:Int))) then
    let t1:=(List.drop (Int.toNat ((d.2.1.length):Int)) (List.take (Int.toNat (d.1.length:Int)) d.1))
    bif decide (d.2.2.1.length+t1.length<=bp) then
     some ((d.2.2.1++t1),true,())
    else none
   else none
def wn (d:Int×bB×aj×G):N ((Int×bB×aj×G)⊕((aj×G)⊕G)):=
 let t0:=(decide (d.1<((d.2.2.1.length):Int)))
 bif t0 then
  bif decide (0<=d.1)&&decide (d.1<(d.2.2.1.length:Int)) then
   let t1:=(d.2.2.1.getD (d.1.toNat) ([],([],(0,()))))
   match As (d.2.1.2.2.2.1,t1.1,()) with
   |none=>none
   |some aJ=>
    bif aJ.1 then
     bif decide (0<=d.1)&&decide (d.1<(d.2.2.1.length:Int)) then
      let t3:=(List.set d.2.2.1 (d.1.toNat) ((d.2.2.1.getD (d.1.toNat) ([],([],(0,())))).1,((d.2.2.1.getD (d.1.toNat) ([],([],(0,())))).2.1,(d.2.1.2.2.2.2.2.2.1,(d.2.2.1.getD (d.1.toNat) ([],([],(0,())))).2.2.2))))
      some (.inl ((i64.wrap (d.1+1)),d.2.1,t3,()))
     else none
    else
     some (.inl ((i64.wrap (d.1+1)),d.2.1,d.2.2.1,()))
  else none
 else
  some (.inr (.inl (d.2.2.1,())))
def XV:=b4 wn
def JD (d:Int×bB×aj×aj×G):N ((Int×bB×aj×aj×G)⊕((aj×G)⊕G)):=
 let t0:=(decide (d.1<((d.2.2.2.1.length):Int)))
 bif t0 then
  bif decide (0<=d.1)&&decide (d.1<(d.2.2.2.1.length:Int)) then
   let t1:=(d.2.2.2.1.getD (d.1.toNat) ([],([],(0,()))))
   match Nt (t1.1,d.2.1.2.2.2.2.1,d.2.1.2.2.2.2.2.1,()) with
   |none=>none
   |some aJ=>
    bif decide (0<=d.1)&&decide (d.1<(d.2.2.2.1.length:Int)) then
     let t3:=(d.2.2.2.1.getD (d.1.toNat) ([],([],(0,()))))
     bif decide (0<=d.1)&&decide (d.1<(d.2.2.2.1.length:Int)) then
      let t4:=(d.2.2.2.1.getD (d.1.toNat) ([],([],(0,()))))
      match wt (d.2.2.1,(aJ.1,(t3.2.1,(t4.2.2.1,()))),()) with
      |none=>none
      |some fX=>
       some (.inl ((i64.wrap (d.1+1)),d.2.1,fX.1,d.2.2.2.1,()))
     else none
    else none
  else none
 else
  some (.inr (.inl (d.2.2.1,())))
def Lx:=b4 JD
def tr (d:aj×bB×G):N (aj×G):=
 bif decide (d.2.1.1=1) then
  match wt (d.1,(d.2.1.2.1,(d.2.1.2.2.1,(d.2.1.2.2.2.2.2.2.1,()))),()) with
  |none=>none
  |some Q=>
   some (Q.1,())
 else
  bif decide (d.2.1.1=2) then
   match oH (d.2.1.2.1,()) with
   |none=>none
   |some Q=>
    match vN (d.1,([Q.1]:aq),()) with
    |none=>none
    |some ah=>
     some (ah.1,())
  else
   bif decide (d.2.1.1=3) then
    match vN (d.1,([d.2.1.2.2.2.1]:aq),()) with
    |none=>none
    |some Q=>
     some (Q.1,())
   else
    bif decide (d.2.1.1=6) then
     bif (decide ((List.length ([]:aj)+d.1.length)*40<=bp)) then
      let t0:aj:=([]++d.1)
      match XV (0,d.2.1,t0,()) with
      |none=>none
      |some (.inl aG)=>
       some (aG.1,())
      |some (.inr aG)=>
       none
     else none
    else
     match nP (d.2.1.2.2.2.2.2.1,()) with
     |none=>none
     |some Q=>
      match vN (d.1,([Q.1]:aq),()) with
      |none=>none
      |some ah=>
       match nP (d.2.1.2.2.2.2.1,()) with
       |none=>none
       |some aJ=>
        match JY (d.1,([aJ.1]:aq),()) with
        |none=>none
        |some bR=>
         bif decide (d.2.1.1=4) then
          match nP (d.2.1.2.2.2.2.1,()) with
          |none=>none
          |some cB=>
           match vN (ah.1,([cB.1]:aq),()) with
           |none=>none
           |some fX=>
            match Lx (0,d.2.1,fX.1,bR.1,()) with
            |none=>none
            |some (.inl hX)=>
             some (hX.1,())
            |some (.inr hX)=>
             none
         else
          match Lx (0,d.2.1,ah.1,bR.1,()) with
          |none=>none
          |some (.inl z4)=>
           some (z4.1,())
          |some (.inr z4)=>
           none
def JX (d:aj×cG×Int×G):N ((aj×cG×Int×G)⊕((aj×G)⊕G)):=
 let t0:=(decide (d.2.2.1<((d.2.1.length):Int)))
 bif t0 then
  bif decide (0<=d.2.2.1)&&decide (d.2.2.1<(d.2.1.length:Int)) then
   let t1:=(d.2.1.getD (d.2.2.1.toNat) (0,([],([],(([],([],())),([],([],(0,()))))))))
   match tr (d.1,t1,()) with
   |none=>none
   |some aJ=>
    some (.inl (aJ.1,d.2.1,(i64.wrap (d.2.2.1+1)),()))
  else none
 else
  some (.inr (.inl (d.1,())))
def ZL:=b4 JX
def N8 (d:aj×cG×G):N (aj×G):=
 match ZL (d.1,d.2.1,0,()) with
 |none=>none
 |some (.inl z0)=>
  some (z0.1,())
 |some (.inr z0)=>
  none
def Jg (Dp:fi->N (aj×G)) (d:KC):N (KC⊕((cZ×aj×G)⊕G)):=
 let t0:=(decide (d.1<((d.2.2.1.2.2.1.length):Int)))
 bif t0 then
  bif decide (0<=d.1)&&decide (d.1<(d.2.2.1.2.2.1.length:Int)) then
   let t1:=(d.2.2.1.2.2.1.getD (d.1.toNat) 0)
   match Dp (d.2.1,t1,()) with
   |none=>none
   |some aJ=>
    bif decide ((d.2.2.2.1.length+aJ.1.length)*40<=bp) then
     some (.inl ((i64.wrap (d.1+1)),d.2.1,d.2.2.1,(d.2.2.2.1++aJ.1),()))
    else none
  else none
 else
  some (.inr (.inl (d.2.2.1,d.2.2.2.1,())))
def V6 (Dp:fi->N (aj×G)) (d:KC):N ((cZ×aj×G)⊕G):=b4 (Jg Dp) d
def C4 (Dp:fi->N (aj×G)) (d:fi):N (aj×G):=
 match zu (d.1,d.2.1,()) with
 |none=>none
 |some Q=>
  let t1:=(decide ((((Q.1.2.2.1.length):Int):Int)=0))
  bif t1 then
   some (Q.1.1,())
  else
   match V6 Dp (0,d.1,Q.1,[],()) with
   |none=>none
   |some (.inl z2)=>
    match N8 (z2.2.1,z2.1.2.2.2.2.1,()) with
    |none=>none
    |some bR=>
     some (bR.1,())
   |some (.inr z2)=>
    none
def C3:Nat->fi->N (aj×G)
 |0,_=>none
 |n+1,d=>C4 (C3 n) d
def YG (d:fi):N (aj×G):=C3 kZ d
def aba (d:c4×G):N (aj×G):=
 match YG (d.1.1,d.1.2.1,()) with
 |none=>none
 |some Q=>
  some (Q.1,())
def yr (d:TQ):N (TQ⊕((Bool×G)⊕(Bool×Bool×n7×c4×Int×hi×cN×G))):=
 let t0:=(decide (d.2.2.1<((d.2.2.2.2.2.2.2.1.length):Int)))
 bif t0 then
  bif decide (0<=d.2.2.1)&&decide (d.2.2.1<(d.2.2.2.2.2.2.2.1.length:Int)) then
   let t1:=(d.2.2.2.2.2.2.2.1.getD (d.2.2.1.toNat) [])
   match An (d.2.2.2.2.1,t1,()) with
   |none=>none
   |some aJ=>
    bif decide (0<=d.2.2.1)&&decide (d.2.2.1<(d.2.2.2.2.2.2.2.1.length:Int)) then
     let t3:=(d.2.2.2.2.2.2.2.1.getD (d.2.2.1.toNat) [])
     match An (((d.2.2.2.2.2.2.2.2.1,()),(d.2.2.2.2.2.1,(d.2.2.2.2.2.2.1,()))),t3,()) with
     |none=>none
     |some cB=>
      let t5:=(!decide (cB.1.2.2.2.1=112))
      bif t5 then
       let t6:=(!(aB.eqb Af aJ.1 cB.1))
       bif !t6 then
        let t7:=decide (cB.1.2.2.2.1=112)
        bif t7 then
         let t8:=(!(aB.eqb Af cB.1 (([],([],(0,()))),(false,(0,(112,()))))))
         bif !t8 then
          bif d.2.1 then
           let t9:=(!decide (cB.1.2.2.2.1=112))
           bif t9 then
            some (.inr (.inl (false,())))
           else
            some (.inl (d.1,d.2.1,(i64.wrap (d.2.2.1+3)),d.2.2.2.1,d.2.2.2.2.1,d.2.2.2.2.2.1,d.2.2.2.2.2.2.1,d.2.2.2.2.2.2.2.1,d.2.2.2.2.2.2.2.2.1,()))
          else
           some (.inl (d.1,d.2.1,(i64.wrap (d.2.2.1+3)),d.2.2.2.1,d.2.2.2.2.1,d.2.2.2.2.2.1,d.2.2.2.2.2.2.1,d.2.2.2.2.2.2.2.1,d.2.2.2.2.2.2.2.2.1,()))
         else
          some (.inr (.inl (false,())))
        else
         bif d.2.1 then
          let t8:=(!decide (cB.1.2.2.2.1=112))
          bif t8 then
           some (.inr (.inl (false,())))
          else
           some (.inl (d.1,d.2.1,(i64.wrap (d.2.2.1+3)),d.2.2.2.1,d.2.2.2.2.1,d.2.2.2.2.2.1,d.2.2.2.2.2.2.1,d.2.2.2.2.2.2.2.1,d.2.2.2.2.2.2.2.2.1,()))
         else
          some (.inl (d.1,d.2.1,(i64.wrap (d.2.2.1+3)),d.2.2.2.1,d.2.2.2.2.1,d.2.2.2.2.2.1,d.2.2.2.2.2.2.1,d.2.2.2.2.2.2.2.1,d.2.2.2.2.2.2.2.2.1,()))
       else
        some (.inr (.inl (false,())))
      else
       let t6:=decide (cB.1.2.2.2.1=112)
       bif t6 then
        let t7:=(!(aB.eqb Af cB.1 (([],([],(0,()))),(false,(0,(112,()))))))
        bif !t7 then
         bif d.2.1 then
          let t8:=(!decide (cB.1.2.2.2.1=112))
          bif t8 then
           some (.inr (.inl (false,())))
          else
           some (.inl (d.1,d.2.1,(i64.wrap (d.2.2.1+3)),d.2.2.2.1,d.2.2.2.2.1,d.2.2.2.2.2.1,d.2.2.2.2.2.2.1,d.2.2.2.2.2.2.2.1,d.2.2.2.2.2.2.2.2.1,()))
         else
          some (.inl (d.1,d.2.1,(i64.wrap (d.2.2.1+3)),d.2.2.2.1,d.2.2.2.2.1,d.2.2.2.2.2.1,d.2.2.2.2.2.2.1,d.2.2.2.2.2.2.2.1,d.2.2.2.2.2.2.2.2.1,()))
        else
         some (.inr (.inl (false,())))
       else
        bif d.2.1 then
         let t7:=(!decide (cB.1.2.2.2.1=112))
         bif t7 then
          some (.inr (.inl (false,())))
         else
          some (.inl (d.1,d.2.1,(i64.wrap (d.2.2.1+3)),d.2.2.2.1,d.2.2.2.2.1,d.2.2.2.2.2.1,d.2.2.2.2.2.2.1,d.2.2.2.2.2.2.2.1,d.2.2.2.2.2.2.2.2.1,()))
        else
         some (.inl (d.1,d.2.1,(i64.wrap (d.2.2.1+3)),d.2.2.2.1,d.2.2.2.2.1,d.2.2.2.2.2.1,d.2.2.2.2.2.2.1,d.2.2.2.2.2.2.2.1,d.2.2.2.2.2.2.2.2.1,()))
    else none
  else none
 else
  some (.inr (.inr (d.1,d.2.1,d.2.2.2.1,d.2.2.2.2.1,d.2.2.2.2.2.1,d.2.2.2.2.2.2.1,d.2.2.2.2.2.2.2.2.1,())))
def SR:=b4 yr
def ys (d:TR):N (TR⊕((Bool×G)⊕(Bool×Bool×n7×Int×hi×cN×G))):=
 let t0:=(decide (d.2.2.1<((d.2.2.2.2.2.2.2.1.length):Int)))
 bif t0 then
  bif decide (0<=d.2.2.1)&&decide (d.2.2.1<(d.2.2.2.2.2.2.2.1.length:Int)) then
   let t1:=(d.2.2.2.2.2.2.2.1.getD (d.2.2.1.toNat) ([],([],())))
   match lR (d.2.2.2.2.1,t1,()) with
   |none=>none
   |some aJ=>
    bif decide (0<=d.2.2.1)&&decide (d.2.2.1<(d.2.2.2.2.2.2.2.1.length:Int)) then
     let t3:=(d.2.2.2.2.2.2.2.1.getD (d.2.2.1.toNat) ([],([],())))
     match lR (((d.2.2.2.2.2.2.2.2.1,()),(d.2.2.2.2.2.1,(d.2.2.2.2.2.2.1,()))),t3,()) with
     |none=>none
     |some cB=>
      bif (!(!decide (aJ.1=0))) then
       bif (!decide (cB.1=0)) then
        bif (!(!decide (cB.1=112))) then
         bif decide (cB.1=0) then
          match wh (aJ.2.1,cB.2.1,()) with
          |none=>none
          |some fX=>
           bif (!(!fX.1)) then
            bif (!decide (cB.1=0)) then
             let t6:=(!decide ((((cB.2.1.length):Int):Int)=0))
             bif t6 then
              some (.inr (.inl (false,())))
             else
              some (.inl (d.1,d.2.1,(i64.wrap (d.2.2.1+1)),d.2.2.2.1,d.2.2.2.2.1,d.2.2.2.2.2.1,d.2.2.2.2.2.2.1,d.2.2.2.2.2.2.2.1,d.2.2.2.2.2.2.2.2.1,()))
            else
             some (.inl (d.1,d.2.1,(i64.wrap (d.2.2.1+1)),d.2.2.2.1,d.2.2.2.2.1,d.2.2.2.2.2.1,d.2.2.2.2.2.2.1,d.2.2.2.2.2.2.2.1,d.2.2.2.2.2.2.2.2.1,()))
           else
            some (.inr (.inl (false,())))
         else
          bif (!decide (cB.1=0)) then
           let t5:=(!decide ((((cB.2.1.length):Int):Int)=0))
           bif t5 then
            some (.inr (.inl (false,())))
           else
            some (.inl (d.1,d.2.1,(i64.wrap (d.2.2.1+1)),d.2.2.2.1,d.2.2.2.2.1,d.2.2.2.2.2.1,d.2.2.2.2.2.2.1,d.2.2.2.2.2.2.2.1,d.2.2.2.2.2.2.2.2.1,()))
          else
           some (.inl (d.1,d.2.1,(i64.wrap (d.2.2.1+1)),d.2.2.2.1,d.2.2.2.2.1,d.2.2.2.2.2.1,d.2.2.2.2.2.2.1,d.2.2.2.2.2.2.2.1,d.2.2.2.2.2.2.2.2.1,()))
        else
         some (.inr (.inl (false,())))
       else
        bif decide (cB.1=0) then
         match wh (aJ.2.1,cB.2.1,()) with
         |none=>none
         |some fX=>
          bif (!(!fX.1)) then
           bif (!decide (cB.1=0)) then
            let t6:=(!decide ((((cB.2.1.length):Int):Int)=0))
            bif t6 then
             some (.inr (.inl (false,())))
            else
             some (.inl (d.1,d.2.1,(i64.wrap (d.2.2.1+1)),d.2.2.2.1,d.2.2.2.2.1,d.2.2.2.2.2.1,d.2.2.2.2.2.2.1,d.2.2.2.2.2.2.2.1,d.2.2.2.2.2.2.2.2.1,()))
           else
            some (.inl (d.1,d.2.1,(i64.wrap (d.2.2.1+1)),d.2.2.2.1,d.2.2.2.2.1,d.2.2.2.2.2.1,d.2.2.2.2.2.2.1,d.2.2.2.2.2.2.2.1,d.2.2.2.2.2.2.2.2.1,()))
          else
           some (.inr (.inl (false,())))
        else
         bif (!decide (cB.1=0)) then
          let t5:=(!decide ((((cB.2.1.length):Int):Int)=0))
          bif t5 then
           some (.inr (.inl (false,())))
          else
           some (.inl (d.1,d.2.1,(i64.wrap (d.2.2.1+1)),d.2.2.2.1,d.2.2.2.2.1,d.2.2.2.2.2.1,d.2.2.2.2.2.2.1,d.2.2.2.2.2.2.2.1,d.2.2.2.2.2.2.2.2.1,()))
         else
          some (.inl (d.1,d.2.1,(i64.wrap (d.2.2.1+1)),d.2.2.2.1,d.2.2.2.2.1,d.2.2.2.2.2.1,d.2.2.2.2.2.2.1,d.2.2.2.2.2.2.2.1,d.2.2.2.2.2.2.2.2.1,()))
      else
       some (.inr (.inl (false,())))
    else none
  else none
 else
  some (.inr (.inr (d.1,d.2.1,d.2.2.2.1,d.2.2.2.2.2.1,d.2.2.2.2.2.2.1,d.2.2.2.2.2.2.2.2.1,())))
def SS:=b4 ys
def yK (d:e4×kK×n7×G):N (Bool×G):=
 match MC (()) with
 |none=>none
 |some Q=>
  match Fz (d.1,()) with
  |none=>none
  |some ah=>
   match Fy (ah.1,d.2.1.1,()) with
   |none=>none
   |some aJ=>
    bif decide (0<=aJ.1)&&decide (aJ.1<(aJ.2.2.1.length:Int)) then
     let t3:=(aJ.2.2.1.getD (aJ.1.toNat) (false,(false,(0,(([],([],([],([],([],()))))),())))))
     match we (()) with
     |none=>none
     |some cB=>
      let t5:=i64.wrap (Int.tmod d.2.1.2.1 3)
      match SR (Q.1,t3.2.1,t5,d.2.2.1,ah.1,aJ.1,aJ.2.1,cB.1,aJ.2.2.1,()) with
      |none=>none
      |some (.inl hX)=>
       some (hX.1,())
      |some (.inr hX)=>
       match rG (hX.2.2.1,()) with
       |none=>none
       |some Sv=>
        match jd (Sv.1,()) with
        |none=>none
        |some yT=>
         bif (decide ((yT.1.length+List.length ([([],([],()))]:aq))*32<=bp)) then
          let t9:aq:=(yT.1++([([],([],()))]:aq))
          match SS (hX.1,hX.2.1,0,hX.2.2.1,hX.2.2.2.1,hX.2.2.2.2.1,hX.2.2.2.2.2.1,t9,hX.2.2.2.2.2.2.1,()) with
          |none=>none
          |some (.inl nZ)=>
           some (nZ.1,())
          |some (.inr nZ)=>
           match rG (nZ.2.2.1,()) with
           |none=>none
           |some awv=>
            match qu (((nZ.2.2.2.2.2.1,()),(nZ.2.2.2.1,(nZ.2.2.2.2.1,()))),awv.1,()) with
            |none=>none
            |some aww=>
             bif nZ.1 then
              match zq (((nZ.2.2.2.2.2.1,()),(nZ.2.2.2.1,(nZ.2.2.2.2.1,()))),()) with
              |none=>none
              |some awx=>
               bif !awx.1 then
                let t14:Bool:=((decide (aww.2.1=112))==nZ.2.1)
                some (t14,())
               else
                some (false,())
             else
              some (false,())
         else none
    else none
end D
