import Derived.Test.YtmmmpanpbphkdaaGreatDoorDa
set_option linter.unusedVariables false
open Go Go.X
open Go.IntKind (i64)
namespace D
def xR (d:l7):O (l7⊕(eZ⊕H)):=
 bif d.2.2.2.1>d.1 then
  bif 0<=d.2.2.2.1&&d.2.2.2.1<(d.2.2.2.2.1.length:Int) then
   let t0:=(d.2.2.2.2.1.getD (d.2.2.2.1.toNat) ([],([],())))
   let t1:=i64.wrap (d.2.2.2.1-1)
   bif 0<=t1&&t1<(d.2.2.2.2.1.length:Int) then
    let t2:=(d.2.2.2.2.1.getD (t1.toNat) ([],([],())))
    match ld (t0,t2,()) with
    |none=>none
    |some bV=>
     BV (d.1,d.2.1,d.2.2.1,d.2.2.2.1,(decide (bV.1<0)),d.2.2.2.2.1,())
   else none
  else none
 else
  BV (d.1,d.2.1,d.2.2.1,d.2.2.2.1,false,d.2.2.2.2.1,())
def H3:=b8 xR
def Ch (d:eZ):O (eZ⊕((aw×H)⊕H)):=
 bif d.2.2.1<d.2.1 then
  match H3 (d.1,d.2.1,d.2.2.1,d.2.2.1,d.2.2.2.1,()) with
  |none=>none
  |some (.inl z0)=>
   let t1:=i64.wrap (z0.2.2.1+1)
   some (.inl (z0.1,z0.2.1,t1,z0.2.2.2.1,()))
  |some (.inr z0)=>
   none
 else
  some (.inr (.inl (d.2.2.2.1,())))
def Qx:=b8 Ch
def HR (d:l8):O (aw×H):=
 match Qx (d.1,d.2.1,(i64.wrap (d.1+1)),d.2.2.1,()) with
 |none=>none
 |some (.inl z0)=>
  some (z0.1,())
 |some (.inr z0)=>
  none
def B5 (d:l7):O (eZ⊕((aw×H)⊕(aw×H))):=
 bif (0<=(i64.wrap (d.2.1+d.2.2.1))&&((i64.wrap (d.2.1+d.2.2.1)):Int)<(d.2.2.2.2.1.length:Int)) then
  let t0:=(d.2.2.2.2.1.getD (Int.toNat (i64.wrap (d.2.1+d.2.2.1))) ([],([],())))
  bif (0<=(i64.wrap (d.2.1+d.2.2.2.1))&&((i64.wrap (d.2.1+d.2.2.2.1)):Int)<(d.2.2.2.2.1.length:Int)) then
   let t1:=(d.2.2.2.2.1.getD (Int.toNat (i64.wrap (d.2.1+d.2.2.2.1))) ([],([],())))
   match ld (t0,t1,()) with
   |none=>none
   |some aS=>
    bif (!(decide (aS.1<0))) then
     some (.inr (.inr (d.2.2.2.2.1,())))
    else
     bif (0<=(i64.wrap (d.2.1+d.2.2.2.1))&&((i64.wrap (d.2.1+d.2.2.2.1)):Int)<(d.2.2.2.2.1.length:Int)) then
      let t3:=(d.2.2.2.2.1.getD (Int.toNat (i64.wrap (d.2.1+d.2.2.2.1))) ([],([],())))
      bif (0<=(i64.wrap (d.2.1+d.2.2.1))&&((i64.wrap (d.2.1+d.2.2.1)):Int)<(d.2.2.2.2.1.length:Int)) then
       let t4:=(d.2.2.2.2.1.getD (Int.toNat (i64.wrap (d.2.1+d.2.2.1))) ([],([],())))
       bif (0<=(i64.wrap (d.2.1+d.2.2.1))&&((i64.wrap (d.2.1+d.2.2.1)):Int)<(d.2.2.2.2.1.length:Int)) then
        let t5:=(List.set d.2.2.2.2.1 (Int.toNat (i64.wrap (d.2.1+d.2.2.1))) t3)
        bif (0<=(i64.wrap (d.2.1+d.2.2.2.1))&&((i64.wrap (d.2.1+d.2.2.2.1)):Int)<(t5.length:Int)) then
         let t6:=(List.set t5 (Int.toNat (i64.wrap (d.2.1+d.2.2.2.1))) t4)
         some (.inl (d.1,d.2.1,d.2.2.2.1,t6,()))
        else none
       else none
      else none
     else none
  else none
 else none
def B6 (d:UU):O (eZ⊕((aw×H)⊕(aw×H))):=
 bif d.2.2.2.2.1 then
  let t0:=i64.wrap (d.2.2.2.1+1)
  B5 (d.1,d.2.1,d.2.2.1,t0,d.2.2.2.2.2.1,())
 else
  B5 (d.1,d.2.1,d.2.2.1,d.2.2.2.1,d.2.2.2.2.2.1,())
def va (d:eZ):O (eZ⊕((aw×H)⊕(aw×H))):=
 let t0:=(i64.wrap ((i64.wrap (2*d.2.2.1))+1))
 bif t0>=d.1 then
  some (.inr (.inl (d.2.2.2.1,())))
 else
  let t1:=(decide (((i64.wrap (t0+1)):Int)<d.1))
  bif t1 then
   bif (0<=(i64.wrap (d.2.1+t0))&&((i64.wrap (d.2.1+t0)):Int)<(d.2.2.2.1.length:Int)) then
    let t2:=(d.2.2.2.1.getD (Int.toNat (i64.wrap (d.2.1+t0))) ([],([],())))
    let t3:=(i64.wrap ((i64.wrap (d.2.1+t0))+1))
    bif 0<=t3&&t3<(d.2.2.2.1.length:Int) then
     let t4:=(d.2.2.2.1.getD (t3.toNat) ([],([],())))
     match ld (t2,t4,()) with
     |none=>none
     |some gj=>
      B6 (d.1,d.2.1,d.2.2.1,t0,(decide (gj.1<0)),d.2.2.2.1,())
    else none
   else none
  else
   B6 (d.1,d.2.1,d.2.2.1,t0,false,d.2.2.2.1,())
def Sl:=b8 va
def Cj (d:eZ):O (aw×H):=
 match Sl (d.2.1,d.2.2.1,d.1,d.2.2.2.1,()) with
 |none=>none
 |some (.inl z0)=>
  some (z0.1,())
 |some (.inr z0)=>
  some (z0.1,())
def Cl (d:l7):O (l7⊕(eZ⊕H)):=
 bif d.2.2.2.1>=0 then
  match Cj (d.2.2.2.1,d.2.2.1,d.1,d.2.2.2.2.1,()) with
  |none=>none
  |some aa=>
   let t1:=i64.wrap (d.2.2.2.1-1)
   some (.inl (d.1,d.2.1,d.2.2.1,t1,aa.1,()))
 else
  some (.inr (.inl (d.1,d.2.1,d.2.2.1,d.2.2.2.2.1,())))
def Sj:=b8 Cl
def Cm (d:eZ):O (eZ⊕((aw×H)⊕H)):=
 bif d.2.2.1>=0 then
  bif (0<=(i64.wrap (d.1+d.2.2.1))&&((i64.wrap (d.1+d.2.2.1)):Int)<(d.2.2.2.1.length:Int)) then
   let t0:=(d.2.2.2.1.getD (Int.toNat (i64.wrap (d.1+d.2.2.1))) ([],([],())))
   bif 0<=d.1&&d.1<(d.2.2.2.1.length:Int) then
    let t1:=(d.2.2.2.1.getD (d.1.toNat) ([],([],())))
    bif 0<=d.1&&d.1<(d.2.2.2.1.length:Int) then
     bif (0<=(i64.wrap (d.1+d.2.2.1))&&((i64.wrap (d.1+d.2.2.1)):Int)<(List.length (List.set d.2.2.2.1 (d.1.toNat) t0):Int)) then
      let t2:=(List.set (List.set d.2.2.2.1 (d.1.toNat) t0) (Int.toNat (i64.wrap (d.1+d.2.2.1))) t1)
      match Cj (d.2.1,d.2.2.1,d.1,t2,()) with
      |none=>none
      |some bV=>
       some (.inl (d.1,d.2.1,(i64.wrap (d.2.2.1-1)),bV.1,()))
     else none
    else none
   else none
  else none
 else
  some (.inr (.inl (d.2.2.2.1,())))
def Sk:=b8 Cm
def Is (d:l8):O (aw×H):=
 let t0:=(i64.wrap ((i64.wrap (d.2.1-d.1))-1))
 let t1:=i64.wrap (Int.tdiv t0 2)
 match Sj (d.1,0,(i64.wrap (d.2.1-d.1)),t1,d.2.2.1,()) with
 |none=>none
 |some (.inl z2)=>
  let t3:=i64.wrap (z2.2.2.1-1)
  match Sk (z2.1,z2.2.1,t3,z2.2.2.2.1,()) with
  |none=>none
  |some (.inl z4)=>
   some (z4.1,())
  |some (.inr z4)=>
   none
 |some (.inr z2)=>
  none
def ya (d:Int×Int×aw×Int×H):O (Int×Int×aw×Int×H):=
 bif 0<=d.2.1&&d.2.1<(d.2.2.1.length:Int) then
  let t0:=(d.2.2.1.getD (d.2.1.toNat) ([],([],())))
  bif 0<=d.1&&d.1<(d.2.2.1.length:Int) then
   let t1:=(d.2.2.1.getD (d.1.toNat) ([],([],())))
   match ld (t0,t1,()) with
   |none=>none
   |some aS=>
    bif aS.1<0 then
     let t3:=i64.wrap (d.2.2.2.1+1)
     some (d.2.1,d.1,d.2.2.1,t3,())
    else
     some (d.1,d.2.1,d.2.2.1,d.2.2.2.1,())
  else none
 else none
def Cn (d:Int×Int×Int×aw×Int×H):O Ls:=
 match ya (d.1,d.2.1,d.2.2.2.1,d.2.2.2.2.1,()) with
 |none=>none
 |some aa=>
  match ya (aa.2.1,d.2.2.1,aa.2.2.1,aa.2.2.2.1,()) with
  |none=>none
  |some ah=>
   match ya (aa.1,ah.1,ah.2.2.1,ah.2.2.2.1,()) with
   |none=>none
   |some aS=>
    some (aS.2.1,aS.2.2.1,aS.2.2.2.1,())
def xW (d:Ls):O Ls:=
 match Cn ((i64.wrap (d.1-1)),d.1,(i64.wrap (d.1+1)),d.2.1,d.2.2.1,()) with
 |none=>none
 |some aa=>
  some (aa.1,aa.2.1,aa.2.2.1,())
def HP (d:Int×Int×Int×aw×Int×H):O l8:=
 match Cn (d.1,d.2.1,d.2.2.1,d.2.2.2.1,d.2.2.2.2.1,()) with
 |none=>none
 |some aa=>
  bif aa.2.2.1=0 then
   some (aa.1,1,aa.2.1,())
  else
   bif aa.2.2.1=12 then
    some (aa.1,2,aa.2.1,())
   else
    some (aa.1,0,aa.2.1,())
def H8 (d:l8):O l8:=
 let t0:=(i64.wrap (Int.tdiv (i64.wrap (d.2.1-d.1)) 4))
 let t1:=(i64.wrap (d.1+(i64.wrap (t0*1))))
 let t2:=(i64.wrap (Int.tdiv (i64.wrap (d.2.1-d.1)) 4))
 let t3:=(i64.wrap (d.1+(i64.wrap (t2*2))))
 let t4:=(i64.wrap (Int.tdiv (i64.wrap (d.2.1-d.1)) 4))
 let t5:=(i64.wrap (d.1+(i64.wrap (t4*3))))
 let t6:=(decide (((i64.wrap (d.2.1-d.1)):Int)>=8))
 bif t6 then
  let t7:=(decide (((i64.wrap (d.2.1-d.1)):Int)>=50))
  bif t7 then
   match xW (t1,d.2.2.1,0,()) with
   |none=>none
   |some DK=>
    match xW (t3,DK.2.1,DK.2.2.1,()) with
    |none=>none
    |some DL=>
     match xW (t5,DL.2.1,DL.2.2.1,()) with
     |none=>none
     |some DJ=>
      HP (DK.1,DL.1,DJ.1,DJ.2.1,DJ.2.2.1,())
  else
   HP (t1,t3,t5,d.2.2.1,0,())
 else
  bif (0:Int)=0 then
   some (t3,1,d.2.2.1,())
  else
   let t7:=decide ((0:Int)=12)
   bif t7 then
    some (t3,2,d.2.2.1,())
   else
    some (t3,0,d.2.2.1,())
def B2 (d:l8):O (l8⊕((aw×H)⊕H)):=
 bif d.1<d.2.1 then
  bif 0<=d.2.1&&d.2.1<(d.2.2.1.length:Int) then
   let t0:=(d.2.2.1.getD (d.2.1.toNat) ([],([],())))
   bif 0<=d.1&&d.1<(d.2.2.1.length:Int) then
    let t1:=(d.2.2.1.getD (d.1.toNat) ([],([],())))
    bif 0<=d.1&&d.1<(d.2.2.1.length:Int) then
     bif (0<=d.2.1&&d.2.1<(List.length (List.set d.2.2.1 (d.1.toNat) t0):Int)) then
      let t2:=(List.set (List.set d.2.2.1 (d.1.toNat) t0) (d.2.1.toNat) t1)
      some (.inl ((i64.wrap (d.1+1)),(i64.wrap (d.2.1-1)),t2,()))
     else none
    else none
   else none
  else none
 else
  some (.inr (.inl (d.2.2.1,())))
def Q1:=b8 B2
def Ca (d:l8):O (aw×H):=
 match Q1 (d.1,(i64.wrap (d.2.1-1)),d.2.2.1,()) with
 |none=>none
 |some (.inl z0)=>
  some (z0.1,())
 |some (.inr z0)=>
  none
def B0 (d:l7):O (l7⊕(l7⊕H)):=
 bif d.2.2.1<d.2.1 then
  bif 0<=d.2.2.1&&d.2.2.1<(d.2.2.2.2.1.length:Int) then
   let t0:=(d.2.2.2.2.1.getD (d.2.2.1.toNat) ([],([],())))
   bif (0<=(i64.wrap (d.2.2.1-1))&&((i64.wrap (d.2.2.1-1)):Int)<(d.2.2.2.2.1.length:Int)) then
    let t1:=(d.2.2.2.2.1.getD (Int.toNat (i64.wrap (d.2.2.1-1))) ([],([],())))
    match ld (t0,t1,()) with
    |none=>none
    |some aS=>
     bif (!(decide (aS.1<0))) then
      some (.inl (d.1,d.2.1,(i64.wrap (d.2.2.1+1)),d.2.2.2.1,d.2.2.2.2.1,()))
     else
      some (.inr (.inl (d.1,d.2.1,d.2.2.1,d.2.2.2.1,d.2.2.2.2.1,())))
   else none
  else none
 else
  some (.inr (.inl (d.1,d.2.1,d.2.2.1,d.2.2.2.1,d.2.2.2.2.1,())))
def HH:=b8 B0
def BR (d:w4):O (w4⊕(l7⊕H)):=
 let t0:=decide (d.2.2.2.2.1>=1)
 bif t0 then
  bif 0<=d.2.2.2.2.1&&d.2.2.2.2.1<(d.2.2.2.2.2.1.length:Int) then
   let t1:=(d.2.2.2.2.2.1.getD (d.2.2.2.2.1.toNat) ([],([],())))
   let t2:=i64.wrap (d.2.2.2.2.1-1)
   bif 0<=t2&&t2<(d.2.2.2.2.2.1.length:Int) then
    let t3:=(d.2.2.2.2.2.1.getD (t2.toNat) ([],([],())))
    match ld (t1,t3,()) with
    |none=>none
    |some dE=>
     bif (!(decide (dE.1<0))) then
      some (.inr (.inl (d.1,d.2.1,d.2.2.1,d.2.2.2.1,d.2.2.2.2.2.1,())))
     else
      let t5:=i64.wrap (d.2.2.2.2.1-1)
      let t6:=i64.wrap (d.2.2.2.2.1-1)
      bif 0<=t6&&t6<(d.2.2.2.2.2.1.length:Int) then
       let t7:=(d.2.2.2.2.2.1.getD (t6.toNat) ([],([],())))
       bif 0<=d.2.2.2.2.1&&d.2.2.2.2.1<(d.2.2.2.2.2.1.length:Int) then
        let t8:=(d.2.2.2.2.2.1.getD (d.2.2.2.2.1.toNat) ([],([],())))
        bif 0<=d.2.2.2.2.1&&d.2.2.2.2.1<(d.2.2.2.2.2.1.length:Int) then
         let t9:=(List.set d.2.2.2.2.2.1 (d.2.2.2.2.1.toNat) t7)
         bif 0<=t5&&t5<(t9.length:Int) then
          let t10:=i64.wrap (d.2.2.2.2.1-1)
          some (.inl (d.1,d.2.1,d.2.2.1,d.2.2.2.1,t10,(List.set t9 (t5.toNat) t8),()))
         else none
        else none
       else none
      else none
   else none
  else none
 else
  some (.inr (.inl (d.1,d.2.1,d.2.2.1,d.2.2.2.1,d.2.2.2.2.2.1,())))
def HI:=b8 BR
def BS (d:w4):O (w4⊕(l7⊕H)):=
 bif d.2.2.2.2.1<d.2.1 then
  bif 0<=d.2.2.2.2.1&&d.2.2.2.2.1<(d.2.2.2.2.2.1.length:Int) then
   let t0:=(d.2.2.2.2.2.1.getD (d.2.2.2.2.1.toNat) ([],([],())))
   let t1:=i64.wrap (d.2.2.2.2.1-1)
   bif 0<=t1&&t1<(d.2.2.2.2.2.1.length:Int) then
    let t2:=(d.2.2.2.2.2.1.getD (t1.toNat) ([],([],())))
    match ld (t0,t2,()) with
    |none=>none
    |some bV=>
     bif (!(decide (bV.1<0))) then
      some (.inr (.inl (d.1,d.2.1,d.2.2.1,d.2.2.2.1,d.2.2.2.2.2.1,())))
     else
      let t4:=i64.wrap (d.2.2.2.2.1-1)
      let t5:=i64.wrap (d.2.2.2.2.1-1)
      bif 0<=t5&&t5<(d.2.2.2.2.2.1.length:Int) then
       let t6:=(d.2.2.2.2.2.1.getD (t5.toNat) ([],([],())))
       bif 0<=d.2.2.2.2.1&&d.2.2.2.2.1<(d.2.2.2.2.2.1.length:Int) then
        let t7:=(d.2.2.2.2.2.1.getD (d.2.2.2.2.1.toNat) ([],([],())))
        bif 0<=d.2.2.2.2.1&&d.2.2.2.2.1<(d.2.2.2.2.2.1.length:Int) then
         let t8:=(List.set d.2.2.2.2.2.1 (d.2.2.2.2.1.toNat) t6)
         bif 0<=t4&&t4<(t8.length:Int) then
          let t9:=i64.wrap (d.2.2.2.2.1+1)
          some (.inl (d.1,d.2.1,d.2.2.1,d.2.2.2.1,t9,(List.set t8 (t4.toNat) t7),()))
         else none
        else none
       else none
      else none
   else none
  else none
 else
  some (.inr (.inl (d.1,d.2.1,d.2.2.1,d.2.2.2.1,d.2.2.2.2.2.1,())))
def HJ:=b8 BS
def BY (d:l7):O (l7⊕((Bool×aw×H)⊕(aw×H))):=
 let t0:=(decide (((i64.wrap (d.2.1-d.2.2.1)):Int)>=2))
 bif t0 then
  match HJ (d.1,d.2.1,d.2.2.1,d.2.2.2.1,(i64.wrap (d.2.2.1+1)),d.2.2.2.2.1,()) with
  |none=>none
  |some (.inl aF)=>
   let t2:=i64.wrap (aF.2.2.2.1+1)
   some (.inl (aF.1,aF.2.1,aF.2.2.1,t2,aF.2.2.2.2.1,()))
  |some (.inr aF)=>
   none
 else
  let t1:=i64.wrap (d.2.2.2.1+1)
  some (.inl (d.1,d.2.1,d.2.2.1,t1,d.2.2.2.2.1,()))
def BZ (d:l7):O (l7⊕((Bool×aw×H)⊕(aw×H))):=
 bif d.2.2.2.1<5 then
  match HH (d.1,d.2.1,d.2.2.1,d.2.2.2.1,d.2.2.2.2.1,()) with
  |none=>none
  |some (.inl z0)=>
   bif z0.2.2.1=z0.2.1 then
    some (.inr (.inl (true,z0.2.2.2.2.1,())))
   else
    let t1:=(decide (((i64.wrap (z0.2.1-z0.1)):Int)<50))
    bif t1 then
     some (.inr (.inl (false,z0.2.2.2.2.1,())))
    else
     let t2:=i64.wrap (z0.2.2.1-1)
     let t3:=i64.wrap (z0.2.2.1-1)
     bif 0<=t3&&t3<(z0.2.2.2.2.1.length:Int) then
      let t4:=(z0.2.2.2.2.1.getD (t3.toNat) ([],([],())))
      bif 0<=z0.2.2.1&&z0.2.2.1<(z0.2.2.2.2.1.length:Int) then
       let t5:=(z0.2.2.2.2.1.getD (z0.2.2.1.toNat) ([],([],())))
       bif 0<=z0.2.2.1&&z0.2.2.1<(z0.2.2.2.2.1.length:Int) then
        let t6:=(List.set z0.2.2.2.2.1 (z0.2.2.1.toNat) t4)
        bif 0<=t2&&t2<(t6.length:Int) then
         let t7:=(decide (((i64.wrap (z0.2.2.1-z0.1)):Int)>=2))
         bif t7 then
          let t8:=i64.wrap (z0.2.2.1-1)
          match HI (z0.1,z0.2.1,z0.2.2.1,z0.2.2.2.1,t8,(List.set t6 (t2.toNat) t5),()) with
          |none=>none
          |some (.inl z9)=>
           BY (z9.1,z9.2.1,z9.2.2.1,z9.2.2.2.1,z9.2.2.2.2.1,())
          |some (.inr z9)=>
           none
         else
          BY (z0.1,z0.2.1,z0.2.2.1,z0.2.2.2.1,(List.set t6 (t2.toNat) t5),())
        else none
       else none
      else none
     else none
  |some (.inr z0)=>
   none
 else
  some (.inr (.inr (d.2.2.2.2.1,())))
def Qj:=b8 BZ
def BU (d:l8):O (Bool×aw×H):=
 match Qj (d.1,d.2.1,(i64.wrap (d.1+1)),0,d.2.2.1,()) with
 |none=>none
 |some (.inl z0)=>
  some (z0.1,z0.2.1,())
 |some (.inr z0)=>
  some (false,z0.1,())
def HY (d:eZ):O (eZ⊕(eZ⊕H)):=
 bif d.2.1<=d.2.2.1 then
  bif 0<=d.1&&d.1<(d.2.2.2.1.length:Int) then
   let t0:=(d.2.2.2.1.getD (d.1.toNat) ([],([],())))
   bif 0<=d.2.1&&d.2.1<(d.2.2.2.1.length:Int) then
    let t1:=(d.2.2.2.1.getD (d.2.1.toNat) ([],([],())))
    match ld (t0,t1,()) with
    |none=>none
    |some aS=>
     bif (!(decide (aS.1<0))) then
      some (.inl (d.1,(i64.wrap (d.2.1+1)),d.2.2.1,d.2.2.2.1,()))
     else
      some (.inr (.inl (d.1,d.2.1,d.2.2.1,d.2.2.2.1,())))
   else none
  else none
 else
  some (.inr (.inl (d.1,d.2.1,d.2.2.1,d.2.2.2.1,())))
def Qs:=b8 HY
def HZ (d:eZ):O (eZ⊕(eZ⊕H)):=
 bif d.2.1<=d.2.2.1 then
  bif 0<=d.1&&d.1<(d.2.2.2.1.length:Int) then
   let t0:=(d.2.2.2.1.getD (d.1.toNat) ([],([],())))
   bif 0<=d.2.2.1&&d.2.2.1<(d.2.2.2.1.length:Int) then
    let t1:=(d.2.2.2.1.getD (d.2.2.1.toNat) ([],([],())))
    match ld (t0,t1,()) with
    |none=>none
    |some aS=>
     bif aS.1<0 then
      some (.inl (d.1,d.2.1,(i64.wrap (d.2.2.1-1)),d.2.2.2.1,()))
     else
      some (.inr (.inl (d.1,d.2.1,d.2.2.1,d.2.2.2.1,())))
   else none
  else none
 else
  some (.inr (.inl (d.1,d.2.1,d.2.2.1,d.2.2.2.1,())))
def Qt:=b8 HZ
def HX (d:eZ):O (eZ⊕((Int×aw×H)⊕H)):=
 match Qs (d.1,d.2.1,d.2.2.1,d.2.2.2.1,()) with
 |none=>none
 |some (.inl z0)=>
  match Qt (z0.1,z0.2.1,z0.2.2.1,z0.2.2.2.1,()) with
  |none=>none
  |some (.inl aF)=>
   bif aF.2.1>aF.2.2.1 then
    some (.inr (.inl (aF.2.1,aF.2.2.2.1,())))
   else
    bif 0<=aF.2.2.1&&aF.2.2.1<(aF.2.2.2.1.length:Int) then
     let t2:=(aF.2.2.2.1.getD (aF.2.2.1.toNat) ([],([],())))
     bif 0<=aF.2.1&&aF.2.1<(aF.2.2.2.1.length:Int) then
      let t3:=(aF.2.2.2.1.getD (aF.2.1.toNat) ([],([],())))
      bif 0<=aF.2.1&&aF.2.1<(aF.2.2.2.1.length:Int) then
       let t4:=(List.set aF.2.2.2.1 (aF.2.1.toNat) t2)
       bif 0<=aF.2.2.1&&aF.2.2.1<(t4.length:Int) then
        let t5:=i64.wrap (aF.2.2.1-1)
        some (.inl (aF.1,(i64.wrap (aF.2.1+1)),t5,(List.set t4 (aF.2.2.1.toNat) t3),()))
       else none
      else none
     else none
    else none
  |some (.inr aF)=>
   none
 |some (.inr z0)=>
  none
def H0:=b8 HX
def B4 (d:eZ):O (Int×aw×H):=
 bif 0<=d.2.2.1&&d.2.2.1<(d.2.2.2.1.length:Int) then
  let t0:=(d.2.2.2.1.getD (d.2.2.1.toNat) ([],([],())))
  bif 0<=d.1&&d.1<(d.2.2.2.1.length:Int) then
   let t1:=(d.2.2.2.1.getD (d.1.toNat) ([],([],())))
   bif 0<=d.1&&d.1<(d.2.2.2.1.length:Int) then
    bif (0<=d.2.2.1&&d.2.2.1<(List.length (List.set d.2.2.2.1 (d.1.toNat) t0):Int)) then
     let t2:=(List.set (List.set d.2.2.2.1 (d.1.toNat) t0) (d.2.2.1.toNat) t1)
     match H0 (d.1,(i64.wrap (d.1+1)),(i64.wrap (d.2.1-1)),t2,()) with
     |none=>none
     |some (.inl z3)=>
      some (z3.1,z3.2.1,())
     |some (.inr z3)=>
      none
    else none
   else none
  else none
 else none
def Ii (d:eZ):O (eZ⊕(eZ⊕H)):=
 bif d.2.1<=d.2.2.1 then
  bif 0<=d.2.1&&d.2.1<(d.2.2.2.1.length:Int) then
   let t0:=(d.2.2.2.1.getD (d.2.1.toNat) ([],([],())))
   bif 0<=d.1&&d.1<(d.2.2.2.1.length:Int) then
    let t1:=(d.2.2.2.1.getD (d.1.toNat) ([],([],())))
    match ld (t0,t1,()) with
    |none=>none
    |some aS=>
     bif aS.1<0 then
      some (.inl (d.1,(i64.wrap (d.2.1+1)),d.2.2.1,d.2.2.2.1,()))
     else
      some (.inr (.inl (d.1,d.2.1,d.2.2.1,d.2.2.2.1,())))
   else none
  else none
 else
  some (.inr (.inl (d.1,d.2.1,d.2.2.1,d.2.2.2.1,())))
def St:=b8 Ii
def Ij (d:eZ):O (eZ⊕(eZ⊕H)):=
 bif d.2.1<=d.2.2.1 then
  bif 0<=d.2.2.1&&d.2.2.1<(d.2.2.2.1.length:Int) then
   let t0:=(d.2.2.2.1.getD (d.2.2.1.toNat) ([],([],())))
   bif 0<=d.1&&d.1<(d.2.2.2.1.length:Int) then
    let t1:=(d.2.2.2.1.getD (d.1.toNat) ([],([],())))
    match ld (t0,t1,()) with
    |none=>none
    |some aS=>
     bif (!(decide (aS.1<0))) then
      some (.inl (d.1,d.2.1,(i64.wrap (d.2.2.1-1)),d.2.2.2.1,()))
     else
      some (.inr (.inl (d.1,d.2.1,d.2.2.1,d.2.2.2.1,())))
   else none
  else none
 else
  some (.inr (.inl (d.1,d.2.1,d.2.2.1,d.2.2.2.1,())))
def Su:=b8 Ij
def Il (d:eZ):O (eZ⊕(eZ⊕H)):=
 bif d.2.1<=d.2.2.1 then
  bif 0<=d.2.1&&d.2.1<(d.2.2.2.1.length:Int) then
   let t0:=(d.2.2.2.1.getD (d.2.1.toNat) ([],([],())))
   bif 0<=d.1&&d.1<(d.2.2.2.1.length:Int) then
    let t1:=(d.2.2.2.1.getD (d.1.toNat) ([],([],())))
    match ld (t0,t1,()) with
    |none=>none
    |some aS=>
     bif aS.1<0 then
      some (.inl (d.1,(i64.wrap (d.2.1+1)),d.2.2.1,d.2.2.2.1,()))
     else
      some (.inr (.inl (d.1,d.2.1,d.2.2.1,d.2.2.2.1,())))
   else none
  else none
 else
  some (.inr (.inl (d.1,d.2.1,d.2.2.1,d.2.2.2.1,())))
def Sv:=b8 Il
def Im (d:eZ):O (eZ⊕(eZ⊕H)):=
 bif d.2.1<=d.2.2.1 then
  bif 0<=d.2.2.1&&d.2.2.1<(d.2.2.2.1.length:Int) then
   let t0:=(d.2.2.2.1.getD (d.2.2.1.toNat) ([],([],())))
   bif 0<=d.1&&d.1<(d.2.2.2.1.length:Int) then
    let t1:=(d.2.2.2.1.getD (d.1.toNat) ([],([],())))
    match ld (t0,t1,()) with
    |none=>none
    |some aS=>
     bif (!(decide (aS.1<0))) then
      some (.inl (d.1,d.2.1,(i64.wrap (d.2.2.1-1)),d.2.2.2.1,()))
     else
      some (.inr (.inl (d.1,d.2.1,d.2.2.1,d.2.2.2.1,())))
   else none
  else none
 else
  some (.inr (.inl (d.1,d.2.1,d.2.2.1,d.2.2.2.1,())))
def Sw:=b8 Im
def Ik (d:eZ):O (eZ⊕(l8⊕H)):=
 match Sv (d.1,d.2.1,d.2.2.1,d.2.2.2.1,()) with
 |none=>none
 |some (.inl z0)=>
  match Sw (z0.1,z0.2.1,z0.2.2.1,z0.2.2.2.1,()) with
  |none=>none
  |some (.inl aF)=>
   bif aF.2.1>aF.2.2.1 then
    some (.inr (.inl (aF.1,aF.2.2.1,aF.2.2.2.1,())))
   else
    bif 0<=aF.2.2.1&&aF.2.2.1<(aF.2.2.2.1.length:Int) then
     let t2:=(aF.2.2.2.1.getD (aF.2.2.1.toNat) ([],([],())))
     bif 0<=aF.2.1&&aF.2.1<(aF.2.2.2.1.length:Int) then
      let t3:=(aF.2.2.2.1.getD (aF.2.1.toNat) ([],([],())))
      bif 0<=aF.2.1&&aF.2.1<(aF.2.2.2.1.length:Int) then
       let t4:=(List.set aF.2.2.2.1 (aF.2.1.toNat) t2)
       bif 0<=aF.2.2.1&&aF.2.2.1<(t4.length:Int) then
        let t5:=i64.wrap (aF.2.2.1-1)
        some (.inl (aF.1,(i64.wrap (aF.2.1+1)),t5,(List.set t4 (aF.2.2.1.toNat) t3),()))
       else none
      else none
     else none
    else none
  |some (.inr aF)=>
   none
 |some (.inr z0)=>
  none
def Io:=b8 Ik
def Ci (d:eZ):O (Int×Bool×aw×H):=
 bif 0<=d.2.2.1&&d.2.2.1<(d.2.2.2.1.length:Int) then
  let t0:=(d.2.2.2.1.getD (d.2.2.1.toNat) ([],([],())))
  bif 0<=d.1&&d.1<(d.2.2.2.1.length:Int) then
   let t1:=(d.2.2.2.1.getD (d.1.toNat) ([],([],())))
   bif 0<=d.1&&d.1<(d.2.2.2.1.length:Int) then
    bif (0<=d.2.2.1&&d.2.2.1<(List.length (List.set d.2.2.2.1 (d.1.toNat) t0):Int)) then
     let t2:=(List.set (List.set d.2.2.2.1 (d.1.toNat) t0) (d.2.2.1.toNat) t1)
     match St (d.1,(i64.wrap (d.1+1)),(i64.wrap (d.2.1-1)),t2,()) with
     |none=>none
     |some (.inl z3)=>
      match Su (z3.1,z3.2.1,z3.2.2.1,z3.2.2.2.1,()) with
      |none=>none
      |some (.inl z4)=>
       bif z4.2.1>z4.2.2.1 then
        bif 0<=z4.1&&z4.1<(z4.2.2.2.1.length:Int) then
         let t5:=(z4.2.2.2.1.getD (z4.1.toNat) ([],([],())))
         bif 0<=z4.2.2.1&&z4.2.2.1<(z4.2.2.2.1.length:Int) then
          let t6:=(z4.2.2.2.1.getD (z4.2.2.1.toNat) ([],([],())))
          bif 0<=z4.2.2.1&&z4.2.2.1<(z4.2.2.2.1.length:Int) then
           let t7:=(List.set z4.2.2.2.1 (z4.2.2.1.toNat) t5)
           bif 0<=z4.1&&z4.1<(t7.length:Int) then
            some (z4.2.2.1,true,(List.set t7 (z4.1.toNat) t6),())
           else none
          else none
         else none
        else none
       else
        bif 0<=z4.2.2.1&&z4.2.2.1<(z4.2.2.2.1.length:Int) then
         let t5:=(z4.2.2.2.1.getD (z4.2.2.1.toNat) ([],([],())))
         bif 0<=z4.2.1&&z4.2.1<(z4.2.2.2.1.length:Int) then
          let t6:=(z4.2.2.2.1.getD (z4.2.1.toNat) ([],([],())))
          bif 0<=z4.2.1&&z4.2.1<(z4.2.2.2.1.length:Int) then
           let t7:=(List.set z4.2.2.2.1 (z4.2.1.toNat) t5)
           bif 0<=z4.2.2.1&&z4.2.2.1<(t7.length:Int) then
            let t8:=i64.wrap (z4.2.2.1-1)
            match Io (z4.1,(i64.wrap (z4.2.1+1)),t8,(List.set t7 (z4.2.2.1.toNat) t6),()) with
            |none=>none
            |some (.inl z9)=>
             bif 0<=z9.1&&z9.1<(z9.2.2.1.length:Int) then
              let t10:=(z9.2.2.1.getD (z9.1.toNat) ([],([],())))
              bif 0<=z9.2.1&&z9.2.1<(z9.2.2.1.length:Int) then
               let t11:=(z9.2.2.1.getD (z9.2.1.toNat) ([],([],())))
               bif 0<=z9.2.1&&z9.2.1<(z9.2.2.1.length:Int) then
                let t12:=(List.set z9.2.2.1 (z9.2.1.toNat) t10)
                bif 0<=z9.1&&z9.1<(t12.length:Int) then
                 some (z9.2.1,false,(List.set t12 (z9.1.toNat) t11),())
                else none
               else none
              else none
             else none
            |some (.inr z9)=>
             none
           else none
          else none
         else none
        else none
      |some (.inr z4)=>
       none
     |some (.inr z3)=>
      none
    else none
   else none
  else none
 else none
def Jf (d:Int×H):O (Int×H):=
 match zn ((IntKind.u64.wrap d.1),()) with
 |none=>none
 |some aa=>
  bif aa.1<0 then
   none
  else
   let t1:=(IntKind.u64.wrap (1*2^(min (aa.1.toNat) IntKind.u64.bits)))
   some (t1,())
def Ta (d:Int×H):O lW:=
 let t0:=(IntKind.u64.wrap (d.1*2^(min (Int.toNat 13) IntKind.u64.bits)))
 let t1:=(IntKind.u64.wrap ((BitVec.ofInt IntKind.u64.bits d.1 ^^^ BitVec.ofInt IntKind.u64.bits t0).toNat:Int))
 let t2:Int:=(Int.fdiv t1 (2^(min (Int.toNat 7) IntKind.u64.bits)))
 let t3:=(IntKind.u64.wrap ((BitVec.ofInt IntKind.u64.bits t1 ^^^ BitVec.ofInt IntKind.u64.bits t2).toNat:Int))
 let t4:=(IntKind.u64.wrap (t3*2^(min (Int.toNat 17) IntKind.u64.bits)))
 let t5:=(IntKind.u64.wrap ((BitVec.ofInt IntKind.u64.bits t3 ^^^ BitVec.ofInt IntKind.u64.bits t4).toNat:Int))
 some (t5,t5,())
def HF (d:Int×Int×Int×Int×Int×aw×Int×H):O (Lu⊕((aw×H)⊕H)):=
 bif (0<=(i64.wrap (d.1+d.2.2.2.2.1))&&((i64.wrap (d.1+d.2.2.2.2.1)):Int)<(d.2.2.2.2.2.1.length:Int)) then
  let t0:=(d.2.2.2.2.2.1.getD (Int.toNat (i64.wrap (d.1+d.2.2.2.2.1))) ([],([],())))
  bif 0<=d.2.2.2.1&&d.2.2.2.1<(d.2.2.2.2.2.1.length:Int) then
   let t1:=(d.2.2.2.2.2.1.getD (d.2.2.2.1.toNat) ([],([],())))
   bif 0<=d.2.2.2.1&&d.2.2.2.1<(d.2.2.2.2.2.1.length:Int) then
    let t2:=(List.set d.2.2.2.2.2.1 (d.2.2.2.1.toNat) t0)
    bif (0<=(i64.wrap (d.1+d.2.2.2.2.1))&&((i64.wrap (d.1+d.2.2.2.2.1)):Int)<(t2.length:Int)) then
     let t3:=(List.set t2 (Int.toNat (i64.wrap (d.1+d.2.2.2.2.1))) t1)
     let t4:=i64.wrap (d.2.2.2.1+1)
     some (.inl (d.1,d.2.1,d.2.2.1,t4,t3,d.2.2.2.2.2.2.1,()))
    else none
   else none
  else none
 else none
def co (d:Lu):O (Lu⊕((aw×H)⊕H)):=
 let t0:=i64.wrap (Int.tdiv d.2.1 4)
 let t1:=(i64.wrap (d.1+(i64.wrap (t0*2))))
 let t2:=(decide (d.2.2.2.1<=(i64.wrap (t1+1))))
 bif t2 then
  match Ta (d.2.2.2.2.2.1,()) with
  |none=>none
  |some bV=>
   let t4:=(IntKind.u64.wrap ((BitVec.ofInt IntKind.u64.bits bV.1 &&& BitVec.ofInt IntKind.u64.bits (IntKind.u64.wrap (d.2.2.1-1))).toNat:Int))
   let t5:=(decide (((i64.wrap t4):Int)>=d.2.1))
   bif t5 then
    let t6:=i64.wrap ((i64.wrap t4)-d.2.1)
    HF (d.1,d.2.1,d.2.2.1,d.2.2.2.1,t6,d.2.2.2.2.1,bV.2.1,())
   else
    HF (d.1,d.2.1,d.2.2.1,d.2.2.2.1,(i64.wrap t4),d.2.2.2.2.1,bV.2.1,())
 else
  some (.inr (.inl (d.2.2.2.2.1,())))
def Qv:=b8 co
def HQ (d:l8):O (aw×H):=
 let t0:=(decide (((i64.wrap (d.2.1-d.1)):Int)>=8))
 bif t0 then
  let t1:=(IntKind.u64.wrap (i64.wrap (d.2.1-d.1)))
  match Jf ((i64.wrap (d.2.1-d.1)),()) with
  |none=>none
  |some aS=>
   let t3:=(i64.wrap (Int.tdiv (i64.wrap (d.2.1-d.1)) 4))
   let t4:=(i64.wrap (d.1+(i64.wrap (t3*2))))
   match Qv (d.1,(i64.wrap (d.2.1-d.1)),aS.1,(i64.wrap (t4-1)),d.2.2.1,t1,()) with
   |none=>none
   |some (.inl z5)=>
    some (z5.1,())
   |some (.inr z5)=>
    none
 else
  some (d.2.2.1,())
def nu (cn:eZ->O (aw×H)) (d:Ut):O (Uk⊕(aw×H)):=
 bif d.2.2.2.2.2.2.2.1 then
  match BU (d.1,d.2.1,d.2.2.2.2.2.2.2.2.1,()) with
  |none=>none
  |some aa=>
   bif aa.1 then
    some (.inr (aa.2.1,()))
   else
    some (.inl (d.1,d.2.1,d.2.2.1,d.2.2.2.1,d.2.2.2.2.1,d.2.2.2.2.2.1,d.2.2.2.2.2.2.1,aa.2.1,()))
 else
  some (.inl (d.1,d.2.1,d.2.2.1,d.2.2.2.1,d.2.2.2.2.1,d.2.2.2.2.2.1,d.2.2.2.2.2.2.1,d.2.2.2.2.2.2.2.2.1,()))
def pP (cn:eZ->O (aw×H)) (d:Ut):O (w4⊕qH):=
 bif d.2.2.2.2.2.2.2.1 then
  match B4 (d.1,d.2.1,d.2.2.2.2.2.2.1,d.2.2.2.2.2.2.2.2.1,()) with
  |none=>none
  |some aa=>
   some (.inr (aa.1,d.2.1,d.2.2.1,d.2.2.2.1,d.2.2.2.2.1,aa.2.1,()))
 else
  some (.inl (d.1,d.2.1,d.2.2.1,d.2.2.2.2.2.1,d.2.2.2.2.2.2.1,d.2.2.2.2.2.2.2.2.1,()))
def qW (cn:eZ->O (aw×H)) (d:w4):O (qH⊕H):=
 match Ci (d.1,d.2.1,d.2.2.2.2.1,d.2.2.2.2.2.1,()) with
 |none=>none
 |some aa=>
  let t1:=i64.wrap (Int.tdiv d.2.2.2.1 8)
  let t2:=(decide (((i64.wrap (aa.1-d.1)):Int)<(i64.wrap (d.2.1-aa.1))))
  bif t2 then
   let t3:=(decide (((i64.wrap (aa.1-d.1)):Int)>=t1))
   match cn (d.1,aa.1,d.2.2.1,aa.2.2.1,()) with
   |none=>none
   |some dE=>
    some (.inl ((i64.wrap (aa.1+1)),d.2.1,d.2.2.1,t3,aa.2.1,dE.1,()))
  else
   let t3:=(decide (((i64.wrap (d.2.1-aa.1)):Int)>=t1))
   match cn ((i64.wrap (aa.1+1)),d.2.1,d.2.2.1,aa.2.2.1,()) with
   |none=>none
   |some dE=>
    some (.inl (d.1,aa.1,d.2.2.1,t3,aa.2.1,dE.1,()))
def ma (cn:eZ->O (aw×H)) (d:Uk):O (qH⊕qH):=
 bif d.1>0 then
  bif (0<=(i64.wrap (d.1-1))&&((i64.wrap (d.1-1)):Int)<(d.2.2.2.2.2.2.2.1.length:Int)) then
   let t0:=(d.2.2.2.2.2.2.2.1.getD (Int.toNat (i64.wrap (d.1-1))) ([],([],())))
   bif 0<=d.2.2.2.2.2.2.1&&d.2.2.2.2.2.2.1<(d.2.2.2.2.2.2.2.1.length:Int) then
    let t1:=(d.2.2.2.2.2.2.2.1.getD (d.2.2.2.2.2.2.1.toNat) ([],([],())))
    match ld (t0,t1,()) with
    |none=>none
    |some aS=>
     match pP cn (d.1,d.2.1,d.2.2.1,d.2.2.2.1,d.2.2.2.2.1,d.2.2.2.2.2.1,d.2.2.2.2.2.2.1,(!(decide (aS.1<0))),d.2.2.2.2.2.2.2.1,()) with
     |none=>none
     |some (.inl z3)=>
      match qW cn (z3.1,z3.2.1,z3.2.2.1,z3.2.2.2.1,z3.2.2.2.2.1,z3.2.2.2.2.2.1,()) with
      |none=>none
      |some (.inl z4)=>
       some (.inl (z4.1,z4.2.1,z4.2.2.1,z4.2.2.2.1,z4.2.2.2.2.1,z4.2.2.2.2.2.1,()))
      |some (.inr z4)=>
       none
     |some (.inr z3)=>
      some (.inr (z3.1,z3.2.1,z3.2.2.1,z3.2.2.2.1,z3.2.2.2.2.1,z3.2.2.2.2.2.1,()))
   else none
  else none
 else
  match pP cn (d.1,d.2.1,d.2.2.1,d.2.2.2.1,d.2.2.2.2.1,d.2.2.2.2.2.1,d.2.2.2.2.2.2.1,false,d.2.2.2.2.2.2.2.1,()) with
  |none=>none
  |some (.inl z0)=>
   match qW cn (z0.1,z0.2.1,z0.2.2.1,z0.2.2.2.1,z0.2.2.2.2.1,z0.2.2.2.2.2.1,()) with
   |none=>none
   |some (.inl aF)=>
    some (.inl (aF.1,aF.2.1,aF.2.2.1,aF.2.2.2.1,aF.2.2.2.2.1,aF.2.2.2.2.2.1,()))
   |some (.inr aF)=>
    none
  |some (.inr z0)=>
   some (.inr (z0.1,z0.2.1,z0.2.2.1,z0.2.2.2.1,z0.2.2.2.2.1,z0.2.2.2.2.2.1,()))
def HT (cn:eZ->O (aw×H)) (d:Int×Int×Int×Bool×Bool×Int×Int×Int×aw×H):O (qH⊕((aw×H)⊕H)):=
 bif d.2.2.2.1 then
  bif d.2.2.2.2.1 then
   let t0:=decide (d.2.2.2.2.2.2.2.1=1)
   match nu cn (d.1,d.2.1,d.2.2.1,d.2.2.2.1,d.2.2.2.2.1,d.2.2.2.2.2.1,d.2.2.2.2.2.2.1,t0,d.2.2.2.2.2.2.2.2.1,()) with
   |none=>none
   |some (.inl aF)=>
    match ma cn (aF.1,aF.2.1,aF.2.2.1,aF.2.2.2.1,aF.2.2.2.2.1,aF.2.2.2.2.2.1,aF.2.2.2.2.2.2.1,aF.2.2.2.2.2.2.2.1,()) with
    |none=>none
    |some (.inl z2)=>
     some (.inl (z2.1,z2.2.1,z2.2.2.1,z2.2.2.2.1,z2.2.2.2.2.1,z2.2.2.2.2.2.1,()))
    |some (.inr z2)=>
     some (.inl (z2.1,z2.2.1,z2.2.2.1,z2.2.2.2.1,z2.2.2.2.2.1,z2.2.2.2.2.2.1,()))
   |some (.inr aF)=>
    some (.inr (.inl (aF.1,())))
  else
   match nu cn (d.1,d.2.1,d.2.2.1,d.2.2.2.1,d.2.2.2.2.1,d.2.2.2.2.2.1,d.2.2.2.2.2.2.1,false,d.2.2.2.2.2.2.2.2.1,()) with
   |none=>none
   |some (.inl z0)=>
    match ma cn (z0.1,z0.2.1,z0.2.2.1,z0.2.2.2.1,z0.2.2.2.2.1,z0.2.2.2.2.2.1,z0.2.2.2.2.2.2.1,z0.2.2.2.2.2.2.2.1,()) with
    |none=>none
    |some (.inl aF)=>
     some (.inl (aF.1,aF.2.1,aF.2.2.1,aF.2.2.2.1,aF.2.2.2.2.1,aF.2.2.2.2.2.1,()))
    |some (.inr aF)=>
     some (.inl (aF.1,aF.2.1,aF.2.2.1,aF.2.2.2.1,aF.2.2.2.2.1,aF.2.2.2.2.2.1,()))
   |some (.inr z0)=>
    some (.inr (.inl (z0.1,())))
 else
  match nu cn (d.1,d.2.1,d.2.2.1,d.2.2.2.1,d.2.2.2.2.1,d.2.2.2.2.2.1,d.2.2.2.2.2.2.1,false,d.2.2.2.2.2.2.2.2.1,()) with
  |none=>none
  |some (.inl z0)=>
   match ma cn (z0.1,z0.2.1,z0.2.2.1,z0.2.2.2.1,z0.2.2.2.2.1,z0.2.2.2.2.2.1,z0.2.2.2.2.2.2.1,z0.2.2.2.2.2.2.2.1,()) with
   |none=>none
   |some (.inl aF)=>
    some (.inl (aF.1,aF.2.1,aF.2.2.1,aF.2.2.2.1,aF.2.2.2.2.1,aF.2.2.2.2.2.1,()))
   |some (.inr aF)=>
    some (.inl (aF.1,aF.2.1,aF.2.2.1,aF.2.2.2.1,aF.2.2.2.2.1,aF.2.2.2.2.2.1,()))
  |some (.inr z0)=>
   some (.inr (.inl (z0.1,())))
def HS (cn:eZ->O (aw×H)) (d:Int×Int×Int×Bool×Bool×Int×aw×H):O (qH⊕((aw×H)⊕H)):=
 match H8 (d.1,d.2.1,d.2.2.2.2.2.2.1,()) with
 |none=>none
 |some aa=>
  bif aa.2.1=2 then
   match Ca (d.1,d.2.1,aa.2.2.1,()) with
   |none=>none
   |some ah=>
    let t2:=(i64.wrap ((i64.wrap (d.2.1-1))-(i64.wrap (aa.1-d.1))))
    HT cn (d.1,d.2.1,d.2.2.1,d.2.2.2.1,d.2.2.2.2.1,d.2.2.2.2.2.1,t2,1,ah.1,())
  else
   HT cn (d.1,d.2.1,d.2.2.1,d.2.2.2.1,d.2.2.2.2.1,d.2.2.2.2.2.1,aa.1,aa.2.1,aa.2.2.1,())
def x7 (cn:eZ->O (aw×H)) (d:qH):O (qH⊕((aw×H)⊕H)):=
 let t0:=(decide (((i64.wrap (d.2.1-d.1)):Int)<=12))
 bif t0 then
  match HR (d.1,d.2.1,d.2.2.2.2.2.1,()) with
  |none=>none
  |some ah=>
   some (.inr (.inl (ah.1,())))
 else
  bif d.2.2.1=0 then
   match Is (d.1,d.2.1,d.2.2.2.2.2.1,()) with
   |none=>none
   |some ah=>
    some (.inr (.inl (ah.1,())))
  else
   bif !d.2.2.2.1 then
    match HQ (d.1,d.2.1,d.2.2.2.2.2.1,()) with
    |none=>none
    |some ah=>
     HS cn (d.1,d.2.1,(i64.wrap (d.2.2.1-1)),d.2.2.2.1,d.2.2.2.2.1,(i64.wrap (d.2.1-d.1)),ah.1,())
   else
    HS cn (d.1,d.2.1,d.2.2.1,d.2.2.2.1,d.2.2.2.2.1,(i64.wrap (d.2.1-d.1)),d.2.2.2.2.2.1,())
def Ie (cn:eZ->O (aw×H)) (d:qH):O ((aw×H)⊕H):=b8 (x7 cn) d
def B9 (cn:eZ->O (aw×H)) (d:eZ):O (aw×H):=
 match Ie cn (d.1,d.2.1,d.2.2.1,true,true,d.2.2.2.1,()) with
 |none=>none
 |some (.inl z0)=>
  some (z0.1,())
 |some (.inr z0)=>
  none
def H5:Nat->eZ->O (aw×H)
 |0,_=>none
 |n+1,d=>B9 (H5 n) d
def SG (d:eZ):O (aw×H):=H5 jl d
def Ic (d:aw×H):O (aw×H):=
 let t0:=(IntKind.u64.wrap ((d.1.length):Int))
 match zn (t0,()) with
 |none=>none
 |some ah=>
  match SG (0,((d.1.length):Int),ah.1,d.1,()) with
  |none=>none
  |some aS=>
   some (aS.1,())
def T6 (d:Int×Int×Int×aw×aK×aw×H):O (Fv⊕((aw×H)⊕H)):=
 bif (0<=(i64.wrap (d.1-1))&&((i64.wrap (d.1-1)):Int)<(d.2.2.2.1.length:Int)) then
  let t0:=(d.2.2.2.1.getD (Int.toNat (i64.wrap (d.1-1))) ([],([],())))
  match pZ (t0.2.1,d.2.2.2.2.1.2.1,()) with
  |none=>none
  |some ah=>
   bif ah.1<0 then
    bif (0<=(i64.wrap (d.1-1))&&((i64.wrap (d.1-1)):Int)<(d.2.2.2.1.length:Int)) then
     let t2:=(List.set d.2.2.2.1 (Int.toNat (i64.wrap (d.1-1))) ((d.2.2.2.1.getD (Int.toNat (i64.wrap (d.1-1))) ([],([],()))).1,(d.2.2.2.2.1.2.1,(d.2.2.2.1.getD (Int.toNat (i64.wrap (d.1-1))) ([],([],()))).2.2)))
     some (.inl (d.2.1,(i64.wrap (d.2.2.1+1)),t2,d.2.2.2.2.2.1,()))
    else none
   else
    some (.inl (d.2.1,(i64.wrap (d.2.2.1+1)),d.2.2.2.1,d.2.2.2.2.2.1,()))
 else none
def vS (d:Int×Int×Int×Bool×aw×aK×aw×H):O (Fv⊕((aw×H)⊕H)):=
 bif d.2.2.2.1 then
  bif ((d.2.2.2.2.1.length+List.length ([d.2.2.2.2.2.1]:aw))*32<=bC) then
   let t0:aw:=(d.2.2.2.2.1++([d.2.2.2.2.2.1]:aw))
   some (.inl (d.2.1,(i64.wrap (d.2.2.1+1)),t0,d.2.2.2.2.2.2.1,()))
  else none
 else
  T6 (d.1,d.2.1,d.2.2.1,d.2.2.2.2.1,d.2.2.2.2.2.1,d.2.2.2.2.2.2.1,())
def tu (d:Fv):O (Fv⊕((aw×H)⊕H)):=
 bif d.2.1<d.1 then
  bif 0<=d.2.1&&d.2.1<(d.2.2.2.1.length:Int) then
   let t0:=(d.2.2.2.1.getD (d.2.1.toNat) ([],([],())))
   let t1:=(decide ((((d.2.2.1.length):Int):Int)=0))
   bif !t1 then
    let t2:=(i64.wrap (((d.2.2.1.length):Int)-1))
    bif 0<=t2&&t2<(d.2.2.1.length:Int) then
     let t3:=(d.2.2.1.getD (t2.toNat) ([],([],())))
     let t4:=(!decide ((t3.2.1:N)=[]))
     bif t4 then
      let t5:=(i64.wrap (((d.2.2.1.length):Int)-1))
      bif 0<=t5&&t5<(d.2.2.1.length:Int) then
       let t6:=(d.2.2.1.getD (t5.toNat) ([],([],())))
       vS (((d.2.2.1.length):Int),d.1,d.2.1,(Op.bytesLess t6.2.1 t0.1),d.2.2.1,t0,d.2.2.2.1,())
      else none
     else
      vS (((d.2.2.1.length):Int),d.1,d.2.1,false,d.2.2.1,t0,d.2.2.2.1,())
    else none
   else
    vS (((d.2.2.1.length):Int),d.1,d.2.1,true,d.2.2.1,t0,d.2.2.2.1,())
  else none
 else
  some (.inr (.inl (d.2.2.1,())))
def Nz:=b8 tu
def wH (d:aw×H):O (aw×H):=
 match Iv (d.1,()) with
 |none=>none
 |some aa=>
  match B8 (aa.1,()) with
  |none=>none
  |some ah=>
   match Ic (ah.1,()) with
   |none=>none
   |some aS=>
    match Nz (((aS.1.length):Int),0,[],aS.1,()) with
    |none=>none
    |some (.inl z3)=>
     some (z3.1,())
    |some (.inr z3)=>
     none
def tv (d:UK):O (UK⊕((aw×H)⊕(N×aw×H))):=
 bif d.2.2.2.1<d.2.2.1 then
  bif 0<=d.2.2.2.1&&d.2.2.2.1<(d.2.1.length:Int) then
   let t0:=(d.2.1.getD (d.2.2.2.1.toNat) ([],([],())))
   let t1:=(!decide ((t0.1:N)=[]))
   bif t1 then
    bif ((d.2.2.2.2.1.length+List.length ([(d.1,(t0.1,()))]:aw))*32<=bC) then
     let t2:aw:=(d.2.2.2.2.1++([(d.1,(t0.1,()))]:aw))
     let t3:=decide ((t0.2.1:N)=[])
     bif t3 then
      some (.inr (.inl (t2,())))
     else
      let t4:=i64.wrap (d.2.2.2.1+1)
      some (.inl (t0.2.1,d.2.1,d.2.2.1,t4,t2,()))
    else none
   else
    let t2:=decide ((t0.2.1:N)=[])
    bif t2 then
     some (.inr (.inl (d.2.2.2.2.1,())))
    else
     let t3:=i64.wrap (d.2.2.2.1+1)
     some (.inl (t0.2.1,d.2.1,d.2.2.1,t3,d.2.2.2.2.1,()))
  else none
 else
  some (.inr (.inr (d.1,d.2.2.2.2.1,())))
def NB:=b8 tv
def A3 (d:aw×H):O (aw×H):=
 match NB ([],d.1,((d.1.length):Int),0,[],()) with
 |none=>none
 |some (.inl z0)=>
  some (z0.1,())
 |some (.inr z0)=>
  bif ((z0.2.1.length+List.length ([(z0.1,([],()))]:aw))*32<=bC) then
   let t1:aw:=(z0.2.1++([(z0.1,([],()))]:aw))
   some (t1,())
  else none
def El (d:Un):O (Un⊕(K7⊕H)):=
 let t0:=decide (d.2.2.2.2.2.1<d.2.2.2.2.1)
 bif t0 then
  bif 0<=d.2.2.2.2.2.1&&d.2.2.2.2.2.1<(d.2.2.2.1.length:Int) then
   let t1:=(d.2.2.2.1.getD (d.2.2.2.2.2.1.toNat) ([],([],())))
   match tY (d.2.2.2.2.2.2.2.1,t1,()) with
   |none=>none
   |some aS=>
    bif ((d.2.2.2.2.2.2.1.length+List.length ([aS.1]:aw))*32<=bC) then
     let t3:aw:=(d.2.2.2.2.2.2.1++([aS.1]:aw))
     let t4:=i64.wrap (d.2.2.2.2.2.1+1)
     some (.inl (d.1,d.2.1,d.2.2.1,d.2.2.2.1,d.2.2.2.2.1,t4,t3,d.2.2.2.2.2.2.2.1,d.2.2.2.2.2.2.2.2.1,()))
    else none
  else none
 else
  some (.inr (.inl (d.1,d.2.1,d.2.2.1,d.2.2.2.2.2.2.1,d.2.2.2.2.2.2.2.2.1,())))
def M8:=b8 El
def Ek (d:K7):O (K7⊕((aw×H)⊕H)):=
 bif d.2.2.1<d.2.1 then
  bif 0<=d.2.2.1&&d.2.2.1<(d.2.2.2.2.1.length:Int) then
   let t0:=(d.2.2.2.2.1.getD (d.2.2.1.toNat) ([],([],())))
   match M8 (d.1,d.2.1,d.2.2.1,d.1,((d.1.length):Int),0,d.2.2.2.1,t0,d.2.2.2.2.1,()) with
   |none=>none
   |some (.inl aF)=>
    let t2:=i64.wrap (aF.2.2.1+1)
    some (.inl (aF.1,aF.2.1,t2,aF.2.2.2.1,aF.2.2.2.2.1,()))
   |some (.inr aF)=>
    none
  else none
 else
  some (.inr (.inl (d.2.2.2.1,())))
def M7:=b8 Ek
def Gj (d:Lq):O (aw×H):=
 match wH (d.2.1,()) with
 |none=>none
 |some aa=>
  match A3 (aa.1,()) with
  |none=>none
  |some ah=>
   match M7 (d.1,((ah.1.length):Int),0,[],ah.1,()) with
   |none=>none
   |some (.inl z2)=>
    match wH (z2.1,()) with
    |none=>none
    |some bV=>
     some (bV.1,())
   |some (.inr z2)=>
    none
def zr (d:Lq):O Lq:=
 match Gj (d.2.1,d.1,()) with
 |none=>none
 |some aa=>
  some (d.2.1,aa.1,())
def ER (d:aK×N×N×H):O (aK×H):=
 match kU (d.2.2.1,()) with
 |none=>none
 |some aa=>
  match wE (d.1.1,d.2.1,d.2.2.1,()) with
  |none=>none
  |some ah=>
   match wE (d.1.2.1,d.2.1,d.2.2.1,()) with
   |none=>none
   |some aS=>
    bif aS.2.1 then
     some ((ah.1,(aS.1,())),())
    else
     some ((ah.1,(aa.1.2.1,())),())
def yG (d:Uu):O (Uu⊕((Int×aw×aw×H)⊕H)):=
 bif d.2.1<d.1 then
  bif 0<=d.2.1&&d.2.1<(d.2.2.2.1.length:Int) then
   let t0:=(d.2.2.2.1.getD (d.2.1.toNat) ([],([],())))
   match tY (t0,d.2.2.2.2.2.1,()) with
   |none=>none
   |some ah=>
    match kI (ah.1,()) with
    |none=>none
    |some aS=>
     bif !aS.1 then
      match ER (ah.1,d.2.2.2.2.1.2.2.2.2.2.1,d.2.2.2.2.1.2.2.2.2.1,()) with
      |none=>none
      |some bV=>
       bif ((d.2.2.2.2.2.2.1.length+List.length ([bV.1]:aw))*32<=bC) then
        let t4:aw:=(d.2.2.2.2.2.2.1++([bV.1]:aw))
        some (.inl (d.1,(i64.wrap (d.2.1+1)),d.2.2.1,d.2.2.2.1,d.2.2.2.2.1,d.2.2.2.2.2.1,t4,()))
       else none
     else
      some (.inl (d.1,(i64.wrap (d.2.1+1)),d.2.2.1,d.2.2.2.1,d.2.2.2.2.1,d.2.2.2.2.2.1,d.2.2.2.2.2.2.1,()))
  else none
 else
  some (.inr (.inl (d.2.2.1,d.2.2.2.1,d.2.2.2.2.2.2.1,())))
def SZ:=b8 yG
def Dn (d:Int×aw×bE×aK×aw×H):O (Bool×Int×aw×H):=
 match zr (d.2.2.2.2.1,d.2.1,()) with
 |none=>none
 |some aa=>
  match SZ (((aa.1.length):Int),0,d.1,aa.1,d.2.2.1,d.2.2.2.1,aa.2.1,()) with
  |none=>none
  |some (.inl aF)=>
   match wH (aF.2.2.1,()) with
   |none=>none
   |some aS=>
    bif aF.1= -1 then
     some (true,0,aS.1,())
    else none
  |some (.inr aF)=>
   none
def Dm (d:Bool×Int×aw×bE×H):O (Bool×Int×aw×H):=
 bif d.1 then
  match kU (d.2.2.2.1.2.2.2.2.2.1,()) with
  |none=>none
  |some aa=>
   let t1:=decide (d.2.2.2.1.1=4)
   bif t1 then
    match kU (d.2.2.2.1.2.2.2.2.1,()) with
    |none=>none
    |some aS=>
     bif ((List.length ([aa.1]:aw)+List.length ([aS.1]:aw))*32<=bC) then
      let t3:aw:=(([aa.1]:aw)++([aS.1]:aw))
      Dn (d.2.1,d.2.2.1,d.2.2.2.1,aa.1,t3,())
     else none
   else
    Dn (d.2.1,d.2.2.1,d.2.2.2.1,aa.1,([aa.1]:aw),())
 else
  bif d.2.1= -1 then
   some (true,0,d.2.2.1,())
  else none
def sI (d:Int×Bool×Int×aw×bE×H):O (Bool×Int×aw×H):=
 bif d.2.1 then
  match qw (d.2.2.2.2.1.2.1,()) with
  |none=>none
  |some aa=>
   match zr (([aa.1]:aw),d.2.2.2.1,()) with
   |none=>none
   |some ah=>
    bif d.2.2.1= -1 then
     some (true,0,ah.2.1,())
    else none
 else
  bif d.1=3 then
   match zr (([d.2.2.2.2.1.2.2.2.1]:aw),d.2.2.2.1,()) with
   |none=>none
   |some aa=>
    bif d.2.2.1= -1 then
     some (true,0,aa.2.1,())
    else none
  else
   bif d.1=4 then
    Dm (true,d.2.2.1,d.2.2.2.1,d.2.2.2.2.1,())
   else
    Dm ((decide (d.1=5)),d.2.2.1,d.2.2.2.1,d.2.2.2.2.1,())
def pY (d:Int×bE×Int×aw×H):O (Bool×Int×aw×H):=
 bif d.2.2.1=0 then
  bif d.2.2.1=0 then
   bif d.2.1.1=1 then
    sI (d.2.1.1,true,(-1:Int),d.2.2.2.1,d.2.1,())
   else
    sI (d.2.1.1,(decide (d.2.1.1=2)),(-1:Int),d.2.2.2.1,d.2.1,())
  else none
 else none
def BX (d:Int×Int×cD×aw×H):O ((Int×Int×cD×aw×H)⊕(Fz⊕Fz)):=
 bif d.1>=0 then
  bif 0<=d.1&&d.1<(d.2.2.1.length:Int) then
   let t0:=(d.2.2.1.getD (d.1.toNat) (0,([],([],(([],([],())),([],([],(0,()))))))))
   match pY (d.1,t0,d.2.1,d.2.2.2.1,()) with
   |none=>none
   |some ah=>
    bif !ah.1 then
     some (.inr (.inl (ah.2.1,d.2.2.1,ah.2.2.1,())))
    else
     some (.inl ((i64.wrap (d.1-1)),ah.2.1,d.2.2.1,ah.2.2.1,()))
  else none
 else
  some (.inr (.inr (d.2.1,d.2.2.1,d.2.2.2.1,())))
def QI:=b8 BX
def QR (d:Fz):O Fz:=
 let t0:=(i64.wrap (((d.2.1.length):Int)-1))
 match QI (t0,d.1,d.2.1,d.2.2.1,()) with
 |none=>none
 |some (.inl aF)=>
  some (aF.1,aF.2.1,aF.2.2.1,())
 |some (.inr aF)=>
  some (aF.1,aF.2.1,aF.2.2.1,())
def EP (d:aK×cD×H):O (aw×H):=
 match wH (([d.1]:aw),()) with
 |none=>none
 |some aa=>
  match Ip (d.2.1,()) with
  |none=>none
  |some ah=>
   match QR (0,ah.1,aa.1,()) with
   |none=>none
   |some aS=>
    bif aS.1=0 then
     some (aS.2.2.1,())
    else
     bif aS.1=1 then
      some ([],())
     else none
def S9 (d:uz):O (Bool×aK×H):=
 match tY (d.1,d.2.1,()) with
 |none=>none
 |some aa=>
  match kI (aa.1,()) with
  |none=>none
  |some ah=>
   some ((!ah.1),d.2.1,())
def AP (d:ak×cD×Int×Int×H):O ((ak×cD×Int×Int×H)⊕((ak×H)⊕H)):=
 bif d.2.2.2.1<d.2.2.1 then
  bif 0<=d.2.2.2.1&&d.2.2.2.1<(d.2.1.length:Int) then
   let t0:=(d.2.1.getD (d.2.2.2.1.toNat) (0,([],([],(([],([],())),([],([],(0,()))))))))
   match kP (d.1,t0,()) with
   |none=>none
   |some ah=>
    let t2:=i64.wrap (d.2.2.2.1+1)
    some (.inl (ah.1,d.2.1,d.2.2.1,t2,()))
  else none
 else
  some (.inr (.inl (d.1,())))
def Om:=b8 AP
def uQ (d:ak×cD×H):O (ak×H):=
 match Om (d.1,d.2.1,((d.2.1.length):Int),0,()) with
 |none=>none
 |some (.inl z0)=>
  some (z0.1,())
 |some (.inr z0)=>
  none
def T8 (d:aK×cp×H):O (Bool×cp×H):=
 match pE (d.1,d.2.1.1,()) with
 |none=>none
 |some aa=>
  some (aa.1,d.2.1,())
def Ce (d:aw×Int×Int×cp×H):O ((aw×Int×Int×cp×H)⊕((Int×cp×H)⊕(cp×H))):=
 bif d.2.2.1<d.2.1 then
  bif 0<=d.2.2.1&&d.2.2.1<(d.1.length:Int) then
   let t0:=(d.1.getD (d.2.2.1.toNat) ([],([],())))
   match T8 (t0,d.2.2.2.1,()) with
   |none=>none
   |some ah=>
    bif ah.1 then
     some (.inr (.inl (d.2.2.1,ah.2.1,())))
    else
     some (.inl (d.1,d.2.1,(i64.wrap (d.2.2.1+1)),ah.2.1,()))
  else none
 else
  some (.inr (.inr (d.2.2.2.1,())))
def QK:=b8 Ce
def HN (d:aw×cp×H):O (Int×cp×H):=
 match QK (d.1,((d.1.length):Int),0,d.2.1,()) with
 |none=>none
 |some (.inl z0)=>
  some (z0.1,z0.2.1,())
 |some (.inr z0)=>
  some ((-1:Int),z0.1,())
def Cc (d:aw×cp×H):O (Bool×cp×H):=
 match HN (d.1,d.2.1,()) with
 |none=>none
 |some aa=>
  some ((decide (aa.1>=0)),aa.2.1,())
def En (d:cp×aw×H):O (Bool×aw×H):=
 match Cc (d.2.1,d.1,()) with
 |none=>none
 |some aa=>
  some ((!aa.1),d.2.1,())
def B3 (d:Fy):O (Fy⊕((Int×ak×aw×H)⊕w1)):=
 bif d.2.1<d.1 then
  bif 0<=d.2.1&&d.2.1<(d.2.2.1.length:Int) then
   let t0:=(d.2.2.1.getD (d.2.1.toNat) ([],([],(0,()))))
   match En (t0,d.2.2.2.1,()) with
   |none=>none
   |some ah=>
    bif ah.1 then
     some (.inr (.inl (d.2.1,d.2.2.1,ah.2.1,())))
    else
     some (.inl (d.1,(i64.wrap (d.2.1+1)),d.2.2.1,ah.2.1,()))
  else none
 else
  some (.inr (.inr (d.2.2.1,d.2.2.2.1,())))
def QS:=b8 B3
def x3 (d:w1):O (Int×ak×aw×H):=
 match QS (((d.1.length):Int),0,d.1,d.2.1,()) with
 |none=>none
 |some (.inl z0)=>
  some (z0.1,z0.2.1,z0.2.2.1,())
 |some (.inr z0)=>
  some ((-1:Int),z0.1,z0.2.1,())
def xS (d:Fy):O (Fy⊕((Int×ak×aw×H)⊕H)):=
 let t0:=(decide (d.2.1<((d.2.2.1.length):Int)))
 bif t0 then
  bif 0<=d.2.1&&d.2.1<(d.2.2.1.length:Int) then
   let t1:=(d.2.2.1.getD (d.2.1.toNat) ([],([],(0,()))))
   match En (t1,d.2.2.2.1,()) with
   |none=>none
   |some aS=>
    bif !aS.1 then
     bif 0<=d.1&&d.1<(d.2.2.1.length:Int) then
      some (.inl ((i64.wrap (d.1+1)),(i64.wrap (d.2.1+1)),(List.set d.2.2.1 (d.1.toNat) t1),aS.2.1,()))
     else none
    else
     some (.inl (d.1,(i64.wrap (d.2.1+1)),d.2.2.1,aS.2.1,()))
  else none
 else
  some (.inr (.inl (d.1,d.2.2.1,d.2.2.2.1,())))
def QY:=b8 xS
def B7 (d:w1):O (aw×ak×H):=
 match x3 (d.1,d.2.1,()) with
 |none=>none
 |some aa=>
  bif aa.1=(-1:Int) then
   some (aa.2.2.1,aa.2.1,())
  else
   match QY (aa.1,(i64.wrap (aa.1+1)),aa.2.1,aa.2.2.1,()) with
   |none=>none
   |some (.inl aF)=>
    bif (0<=aF.1&&aF.1<=(aF.2.1.length:Int)&&((aF.2.1.length:Int):Int)<=(aF.2.1.length:Int)) then
     let t2:=(List.take (aF.1.toNat) aF.2.1++List.replicate ((Int.toNat (aF.2.1.length:Int))-(aF.1.toNat)) (([]:N),(([]:N),((0:Int),())))++List.drop ((aF.1.toNat)+((Int.toNat (aF.2.1.length:Int))-(aF.1.toNat))) aF.2.1)
     bif (0:Int)<=aF.1&&aF.1<=(t2.length:Int) then
      some (aF.2.2.1,(List.take (aF.1.toNat) t2),())
     else none
    else none
   |some (.inr aF)=>
    none
def zC (d:w1):O (ak×H):=
 match ve (d.1,()) with
 |none=>none
 |some aa=>
  match B7 (aa.1,d.2.1,()) with
  |none=>none
  |some ah=>
   some (ah.2.1,())
def i5 (d:cp×Int×ak×H):O (Bool×Int×ak×H):=
 bif d.2.1=0 then
  bif d.2.1=0 then
   bif ((d.2.2.1.length+List.length ([d.1]:ak))*40<=bC) then
    let t0:ak:=(d.2.2.1++([d.1]:ak))
    some (true,0,t0,())
   else none
  else none
 else none
def ci (d:Fx):O (Fx⊕((Int×aw×aK×H)⊕sc)):=
 bif d.2.1<d.1 then
  bif 0<=d.2.1&&d.2.1<(d.2.2.1.length:Int) then
   let t0:=(d.2.2.1.getD (d.2.1.toNat) ([],([],())))
   match S9 (t0,d.2.2.2.1,()) with
   |none=>none
   |some ah=>
    bif ah.1 then
     some (.inr (.inl (d.2.1,d.2.2.1,ah.2.1,())))
    else
     some (.inl (d.1,(i64.wrap (d.2.1+1)),d.2.2.1,ah.2.1,()))
  else none
 else
  some (.inr (.inr (d.2.2.1,d.2.2.2.1,())))
def QL:=b8 ci
def HO (d:sc):O (Int×aw×aK×H):=
 match QL (((d.1.length):Int),0,d.1,d.2.1,()) with
 |none=>none
 |some (.inl z0)=>
  some (z0.1,z0.2.1,z0.2.2.1,())
 |some (.inr z0)=>
  some ((-1:Int),z0.1,z0.2.1,())
def ce (d:sc):O (Bool×aw×aK×H):=
 match HO (d.1,d.2.1,()) with
 |none=>none
 |some aa=>
  some ((decide (aa.1>=0)),aa.2.1,aa.2.2.1,())
def Ix (cZ:nr->O (ak×bF×Int×H)) (d:RK):O (uv⊕(mQ⊕mQ)):=
 bif d.2.2.1 then
  some (.inr (.inl (d.2.2.2.1,d.2.2.2.2.1,d.2.2.2.2.2.1,d.2.2.2.2.2.2.1,d.2.2.2.2.2.2.2.1,d.2.2.2.2.2.2.2.2.1,d.2.2.2.2.2.2.2.2.2.2.1,())))
 else
  some (.inl (d.1,(i64.wrap (d.2.1+1)),d.2.2.2.1,d.2.2.2.2.1,d.2.2.2.2.2.1,d.2.2.2.2.2.2.1,d.2.2.2.2.2.2.2.1,d.2.2.2.2.2.2.2.2.1,d.2.2.2.2.2.2.2.2.2.1,d.2.2.2.2.2.2.2.2.2.2.1,()))
def sG (cZ:nr->O (ak×bF×Int×H)) (d:uv):O (uv⊕(mQ⊕mQ)):=
 bif d.2.1<d.1 then
  bif 0<=d.2.1&&d.2.1<(d.2.2.2.2.2.2.2.2.1.length:Int) then
   let t0:=(d.2.2.2.2.2.2.2.2.1.getD (d.2.1.toNat) ([],([],(0,()))))
   let t1:=(!decide (d.2.2.2.2.2.2.2.1=0))
   bif !t1 then
    match i5 (t0,d.2.2.1,d.2.2.2.2.2.2.2.2.2.1,()) with
    |none=>none
    |some aS=>
     Ix cZ (d.1,d.2.1,(!aS.1),aS.2.1,d.2.2.2.1,d.2.2.2.2.1,d.2.2.2.2.2.1,d.2.2.2.2.2.2.1,d.2.2.2.2.2.2.2.1,d.2.2.2.2.2.2.2.2.1,aS.2.2.1,())
   else
    Ix cZ (d.1,d.2.1,true,d.2.2.1,d.2.2.2.1,d.2.2.2.2.1,d.2.2.2.2.2.1,d.2.2.2.2.2.2.1,d.2.2.2.2.2.2.2.1,d.2.2.2.2.2.2.2.2.1,d.2.2.2.2.2.2.2.2.2.1,())
  else none
 else
  some (.inr (.inr (d.2.2.1,d.2.2.2.1,d.2.2.2.2.1,d.2.2.2.2.2.1,d.2.2.2.2.2.2.1,d.2.2.2.2.2.2.2.1,d.2.2.2.2.2.2.2.2.2.1,())))
def x9 (cZ:nr->O (ak×bF×Int×H)) (d:uv):O (mQ⊕mQ):=b8 (sG cZ) d
def x8 (cZ:nr->O (ak×bF×Int×H)) (d:ak×Int×Int×aK×aw×bF×Int×ak×H):O mQ:=
 match zC (d.1,d.2.2.2.2.1,()) with
 |none=>none
 |some aa=>
  match x9 cZ (((aa.1.length):Int),0,d.2.1,d.2.2.1,d.2.2.2.1,d.2.2.2.2.1,d.2.2.2.2.2.1,d.2.2.2.2.2.2.1,aa.1,d.2.2.2.2.2.2.2.1,()) with
  |none=>none
  |some (.inl aF)=>
   some (aF.1,aF.2.1,aF.2.2.1,aF.2.2.2.1,aF.2.2.2.2.1,aF.2.2.2.2.2.1,aF.2.2.2.2.2.2.1,())
  |some (.inr aF)=>
   some (aF.1,aF.2.1,aF.2.2.1,aF.2.2.2.1,aF.2.2.2.2.1,aF.2.2.2.2.2.1,aF.2.2.2.2.2.2.1,())
def sJ (cZ:nr->O (ak×bF×Int×H)) (d:mQ):O mQ:=
 match d9 (d.2.2.2.2.1,d.2.1,()) with
 |none=>none
 |some aa=>
  bif (!(aa.2.1=0)) then
   some (d.1,d.2.1,d.2.2.1,d.2.2.2.1,d.2.2.2.2.1,aa.2.1,d.2.2.2.2.2.2.1,())
  else
   match tS (aa.1,()) with
   |none=>none
   |some ah=>
    bif !ah.1 then
     match cZ (aa.1,d.2.2.1,d.2.2.2.1,d.2.2.2.2.1,d.2.2.2.2.2.1,()) with
     |none=>none
     |some aS=>
      match uQ (aS.1,aa.1.2.2.2.2.1,()) with
      |none=>none
      |some bV=>
       x8 cZ (bV.1,d.1,d.2.1,d.2.2.1,d.2.2.2.1,aS.2.1,aS.2.2.1,d.2.2.2.2.2.2.1,())
    else
     x8 cZ (aa.1.1,d.1,d.2.1,d.2.2.1,d.2.2.2.1,d.2.2.2.2.1,d.2.2.2.2.2.1,d.2.2.2.2.2.2.1,())
def yH (cZ:nr->O (ak×bF×Int×H)) (d:Ld):O (Ld⊕((ak×bF×Int×cz×aK×aw×H)⊕H)):=
 bif d.2.2.2.1<d.2.2.1 then
  bif 0<=d.2.2.2.1&&d.2.2.2.1<(d.2.1.length:Int) then
   let t0:=(d.2.1.getD (d.2.2.2.1.toNat) ([],([],())))
   match EP (t0,d.2.2.2.2.2.2.1.2.2.2.2.1,()) with
   |none=>none
   |some ah=>
    bif (d.2.2.2.2.2.2.2.2.1.length+ah.1.length)*32<=bC then
     let t2:=i64.wrap (d.2.2.2.1+1)
     some (.inl (d.1,d.2.1,d.2.2.1,t2,d.2.2.2.2.1,d.2.2.2.2.2.1,d.2.2.2.2.2.2.1,d.2.2.2.2.2.2.2.1,(d.2.2.2.2.2.2.2.2.1++ah.1),()))
    else none
  else none
 else
  some (.inr (.inl (d.1,d.2.2.2.2.1,d.2.2.2.2.2.1,d.2.2.2.2.2.2.1,d.2.2.2.2.2.2.2.1,d.2.2.2.2.2.2.2.2.1,())))
def Jg (cZ:nr->O (ak×bF×Int×H)) (d:Ld):O ((ak×bF×Int×cz×aK×aw×H)⊕H):=b8 (yH cZ) d
def vi (cZ:nr->O (ak×bF×Int×H)) (d:Le):O (Le⊕((ak×bF×Int×H)⊕(bF×Int×ak×H))):=
 bif d.2.2.1<d.2.1 then
  bif 0<=d.2.2.1&&d.2.2.1<(d.2.2.2.2.2.2.2.1.length:Int) then
   let t0:=(d.2.2.2.2.2.2.2.1.getD (d.2.2.1.toNat) ([],([],())))
   match ce (d.2.2.2.2.2.2.1,t0,()) with
   |none=>none
   |some ah=>
    bif !ah.1 then
     some (.inl (d.1,d.2.1,(i64.wrap (d.2.2.1+1)),d.2.2.2.1,d.2.2.2.2.1,d.2.2.2.2.2.1,ah.2.1,d.2.2.2.2.2.2.2.1,d.2.2.2.2.2.2.2.2.1,()))
    else
     bif 0<=d.2.2.1&&d.2.2.1<(d.2.2.2.2.2.1.2.2.1.length:Int) then
      let t2:=(d.2.2.2.2.2.1.2.2.1.getD (d.2.2.1.toNat) 0)
      match qZ (t2,ah.2.2.1,ah.2.1,d.2.2.2.1,d.2.2.2.2.1,()) with
      |none=>none
      |some bV=>
       match sJ cZ (0,bV.2.2.1,bV.2.2.2.1,bV.2.2.2.2.1,bV.1,bV.2.1,d.2.2.2.2.2.2.2.2.1,()) with
       |none=>none
       |some dE=>
        bif dE.1=0 then
         some (.inl (d.1,d.2.1,(i64.wrap (d.2.2.1+1)),dE.2.2.2.2.1,dE.2.2.2.2.2.1,d.2.2.2.2.2.1,ah.2.1,d.2.2.2.2.2.2.2.1,dE.2.2.2.2.2.2.1,()))
        else
         bif dE.1=1 then
          some (.inr (.inl (d.1,dE.2.2.2.2.1,dE.2.2.2.2.2.1,())))
         else none
     else none
  else none
 else
  some (.inr (.inr (d.2.2.2.1,d.2.2.2.2.1,d.2.2.2.2.2.2.2.2.1,())))
def Jh (cZ:nr->O (ak×bF×Int×H)) (d:Le):O ((ak×bF×Int×H)⊕(bF×Int×ak×H)):=b8 (vi cZ) d
def Di (cZ:nr->O (ak×bF×Int×H)) (d:nr):O (ak×bF×Int×H):=
 match Jg cZ ([],d.2.2.1,((d.2.2.1.length):Int),0,d.2.2.2.1,d.2.2.2.2.1,d.1,d.2.1,[],()) with
 |none=>none
 |some (.inl z0)=>
  match AQ (z0.2.2.2.1,z0.2.2.2.2.1,()) with
  |none=>none
  |some ah=>
   match Jh cZ (z0.1,((ah.1.length):Int),0,z0.2.1,z0.2.2.1,z0.2.2.2.1,z0.2.2.2.2.2.1,ah.1,[],()) with
   |none=>none
   |some (.inl z2)=>
    some (z2.1,z2.2.1,z2.2.2.1,())
   |some (.inr z2)=>
    some (z2.2.2.1,z2.1,z2.2.1,())
 |some (.inr z0)=>
  none
def qX:Nat->nr->O (ak×bF×Int×H)
 |0,_=>none
 |n+1,d=>Di (qX n) d
def Jq (d:nr):O (ak×bF×Int×H):=qX jl d
def Jk (d:cp×Int×ak×H):O (Bool×Int×ak×H):=
 bif d.2.1=0 then
  bif d.2.1=0 then
   bif ((d.2.2.1.length+List.length ([d.1]:ak))*40<=bC) then
    let t0:ak:=(d.2.2.1++([d.1]:ak))
    some (true,0,t0,())
   else none
  else none
 else none
def Jb (d:RK):O (uv⊕(mQ⊕mQ)):=
 bif d.2.2.1 then
  some (.inr (.inl (d.2.2.2.1,d.2.2.2.2.1,d.2.2.2.2.2.1,d.2.2.2.2.2.2.1,d.2.2.2.2.2.2.2.1,d.2.2.2.2.2.2.2.2.1,d.2.2.2.2.2.2.2.2.2.2.1,())))
 else
  some (.inl (d.1,(i64.wrap (d.2.1+1)),d.2.2.2.1,d.2.2.2.2.1,d.2.2.2.2.2.1,d.2.2.2.2.2.2.1,d.2.2.2.2.2.2.2.1,d.2.2.2.2.2.2.2.2.1,d.2.2.2.2.2.2.2.2.2.1,d.2.2.2.2.2.2.2.2.2.2.1,()))
def vf (d:uv):O (uv⊕(mQ⊕mQ)):=
 bif d.2.1<d.1 then
  bif 0<=d.2.1&&d.2.1<(d.2.2.2.2.2.2.2.2.1.length:Int) then
   let t0:=(d.2.2.2.2.2.2.2.2.1.getD (d.2.1.toNat) ([],([],(0,()))))
   let t1:=(!decide (d.2.2.2.2.2.2.2.1=0))
   bif !t1 then
    match Jk (t0,d.2.2.1,d.2.2.2.2.2.2.2.2.2.1,()) with
    |none=>none
    |some aS=>
     Jb (d.1,d.2.1,(!aS.1),aS.2.1,d.2.2.2.1,d.2.2.2.2.1,d.2.2.2.2.2.1,d.2.2.2.2.2.2.1,d.2.2.2.2.2.2.2.1,d.2.2.2.2.2.2.2.2.1,aS.2.2.1,())
   else
    Jb (d.1,d.2.1,true,d.2.2.1,d.2.2.2.1,d.2.2.2.2.1,d.2.2.2.2.2.1,d.2.2.2.2.2.2.1,d.2.2.2.2.2.2.2.1,d.2.2.2.2.2.2.2.2.1,d.2.2.2.2.2.2.2.2.2.1,())
  else none
 else
  some (.inr (.inr (d.2.2.1,d.2.2.2.1,d.2.2.2.2.1,d.2.2.2.2.2.1,d.2.2.2.2.2.2.1,d.2.2.2.2.2.2.2.1,d.2.2.2.2.2.2.2.2.2.1,())))
def ye:=b8 vf
def vl (d:Int×Int×aK×aw×bF×Int×H):O mQ:=
 match d9 (d.2.2.2.2.1,d.2.1,()) with
 |none=>none
 |some aa=>
  bif (!(aa.2.1=0)) then
   some (d.1,d.2.1,d.2.2.1,d.2.2.2.1,d.2.2.2.2.1,aa.2.1,[],())
  else
   match tS (aa.1,()) with
   |none=>none
   |some ah=>
    bif !ah.1 then
     match Jq (aa.1,d.2.2.1,d.2.2.2.1,d.2.2.2.2.1,d.2.2.2.2.2.1,()) with
     |none=>none
     |some aS=>
      match uQ (aS.1,aa.1.2.2.2.2.1,()) with
      |none=>none
      |some bV=>
       match zC (bV.1,d.2.2.2.1,()) with
       |none=>none
       |some dE=>
        match ye (((dE.1.length):Int),0,d.1,d.2.1,d.2.2.1,d.2.2.2.1,aS.2.1,aS.2.2.1,dE.1,[],()) with
        |none=>none
        |some (.inl z5)=>
         some (z5.1,z5.2.1,z5.2.2.1,z5.2.2.2.1,z5.2.2.2.2.1,z5.2.2.2.2.2.1,z5.2.2.2.2.2.2.1,())
        |some (.inr z5)=>
         some (z5.1,z5.2.1,z5.2.2.1,z5.2.2.2.1,z5.2.2.2.2.1,z5.2.2.2.2.2.1,z5.2.2.2.2.2.2.1,())
    else
     match zC (aa.1.1,d.2.2.2.1,()) with
     |none=>none
     |some aS=>
      match ye (((aS.1.length):Int),0,d.1,d.2.1,d.2.2.1,d.2.2.2.1,d.2.2.2.2.1,d.2.2.2.2.2.1,aS.1,[],()) with
      |none=>none
      |some (.inl z3)=>
       some (z3.1,z3.2.1,z3.2.2.1,z3.2.2.2.1,z3.2.2.2.2.1,z3.2.2.2.2.2.1,z3.2.2.2.2.2.2.1,())
      |some (.inr z3)=>
       some (z3.1,z3.2.1,z3.2.2.1,z3.2.2.2.1,z3.2.2.2.2.1,z3.2.2.2.2.2.1,z3.2.2.2.2.2.2.1,())
def kQ (d:c1×aK×H):O (Int×ak×H):=
 match qZ (d.1.2.1,([],([],())),([d.2.1]:aw),d.1.1,0,()) with
 |none=>none
 |some aa=>
  match vl (0,aa.2.2.1,aa.2.2.2.1,aa.2.2.2.2.1,aa.1,aa.2.1,()) with
  |none=>none
  |some ah=>
   bif ah.1=0 then
    let t2:=(!decide (ah.2.2.2.2.2.1=0))
    bif t2 then
     some (ah.2.2.2.2.2.1,[],())
    else
     some (0,ah.2.2.2.2.2.2.1,())
   else
    bif ah.1=1 then
     some (0,[],())
    else none
def Eh (d:ak×ak×Int×H):O ((ak×ak×Int×H)⊕((Bool×H)⊕H)):=
 let t0:=(decide (d.2.2.1<((d.1.length):Int)))
 bif t0 then
  bif 0<=d.2.2.1&&d.2.2.1<(d.1.length:Int) then
   let t1:=(d.1.getD (d.2.2.1.toNat) ([],([],(0,()))))
   bif 0<=d.2.2.1&&d.2.2.1<(d.2.1.length:Int) then
    let t2:=(d.2.1.getD (d.2.2.1.toNat) ([],([],(0,()))))
    let t3:=(!(az.eqb bz t1 t2))
    bif t3 then
     some (.inr (.inl (false,())))
    else
     some (.inl (d.1,d.2.1,(i64.wrap (d.2.2.1+1)),()))
   else none
  else none
 else
  some (.inr (.inr (())))
def M0:=b8 Eh
def zL (d:As):O (Bool×H):=
 let t0:=(!decide ((((d.1.length):Int):Int)=((d.2.1.length):Int)))
 bif t0 then
  some (false,())
 else
  match M0 (d.1,d.2.1,0,()) with
  |none=>none
  |some (.inl aF)=>
   some (aF.1,())
  |some (.inr aF)=>
   some (true,())
def Dx (d:Int×Int×List lW×H):O ((Int×Int×List lW×H)⊕((Bool×H)⊕H)):=
 bif d.2.1<d.1 then
  bif 0<=d.2.1&&d.2.1<(d.2.2.1.length:Int) then
   let t0:=(d.2.2.1.getD (d.2.1.toNat) (0,(0,())))
   bif (!(decide (t0.1<0))) then
    bif (!(decide (t0.1>t0.2.1))) then
     let t1:=decide (t0.2.1>1000000000000000)
     bif t1 then
      some (.inr (.inl (false,())))
     else
      some (.inl (d.1,(i64.wrap (d.2.1+1)),d.2.2.1,()))
    else
     some (.inr (.inl (false,())))
   else
    some (.inr (.inl (false,())))
  else none
 else
  some (.inr (.inr (())))
def TA:=b8 Dx
def KG (d:eV×H):O (Bool×H):=
 let t0:Int:=((List.length ([d.1.1,d.1.2.1]:List lW)):Int)
 match TA (t0,0,([d.1.1,d.1.2.1]:List lW),()) with
 |none=>none
 |some (.inl aF)=>
  some (aF.1,())
 |some (.inr aF)=>
  some (true,())
def D2 (d:ak×Int×H):O ((ak×Int×H)⊕((Bool×H)⊕H)):=
 let t0:=(decide (d.2.1<((d.1.length):Int)))
 bif t0 then
  bif (0<=(i64.wrap (d.2.1-1))&&((i64.wrap (d.2.1-1)):Int)<(d.1.length:Int)) then
   let t1:=(d.1.getD (Int.toNat (i64.wrap (d.2.1-1))) ([],([],(0,()))))
   bif 0<=d.2.1&&d.2.1<(d.1.length:Int) then
    let t2:=(d.1.getD (d.2.1.toNat) ([],([],(0,()))))
    bif (!(Op.bytesLess t1.1 t2.1)) then
     some (.inr (.inl (false,())))
    else
     some (.inl (d.1,(i64.wrap (d.2.1+1)),()))
   else none
  else none
 else
  some (.inr (.inr (())))
def Mm:=b8 D2
def F3 (d:ak×H):O (Bool×H):=
 match Mm (d.1,1,()) with
 |none=>none
 |some (.inl z0)=>
  some (z0.1,())
 |some (.inr z0)=>
  some (true,())
def KF (d:cp×H):O (Bool×H):=
 let t0:=(decide ((((d.1.1.length):Int):Int)>=1))
 bif t0 then
  let t1:=(decide ((((d.1.1.length):Int):Int)<=65535))
  bif t1 then
   let t2:=(decide ((((d.1.2.1.length):Int):Int)<=64))
   bif t2 then
    bif d.1.2.2.1>=0 then
     let t3:=decide (d.1.2.2.1<=1000000000)
     some (t3,())
    else
     some (false,())
   else
    some (false,())
  else
   some (false,())
 else
  some (false,())
def KU (d:cp×aK×H):O (Bool×aK×H):=
 match KF (d.1,()) with
 |none=>none
 |some aa=>
  bif (!(!aa.1)) then
   match pE (d.2.1,d.1.1,()) with
   |none=>none
   |some ah=>
    some ((!ah.1),d.2.1,())
  else
   some (true,d.2.1,())
def sg (d:ak×Int×Int×aK×H):O ((ak×Int×Int×aK×H)⊕((Int×aK×H)⊕(aK×H))):=
 bif d.2.2.1<d.2.1 then
  bif 0<=d.2.2.1&&d.2.2.1<(d.1.length:Int) then
   let t0:=(d.1.getD (d.2.2.1.toNat) ([],([],(0,()))))
   match KU (t0,d.2.2.2.1,()) with
   |none=>none
   |some ah=>
    bif ah.1 then
     some (.inr (.inl (d.2.2.1,ah.2.1,())))
    else
     some (.inl (d.1,d.2.1,(i64.wrap (d.2.2.1+1)),ah.2.1,()))
  else none
 else
  some (.inr (.inr (d.2.2.2.1,())))
def HW:=b8 sg
def HL (d:w5):O (Int×aK×H):=
 match HW (d.1,((d.1.length):Int),0,d.2.1,()) with
 |none=>none
 |some (.inl z0)=>
  some (z0.1,z0.2.1,())
 |some (.inr z0)=>
  some ((-1:Int),z0.1,())
def HK (d:w5):O (Bool×aK×H):=
 match HL (d.1,d.2.1,()) with
 |none=>none
 |some aa=>
  some ((decide (aa.1>=0)),aa.2.1,())
def MS (d:bE×H):O (aw×H):=
 some ([],())
def MR (d:bE×H):O (aw×H):=
 some ([],())
def Mq (d:bE×H):O (aw×H):=
 some ([],())
def Mr (d:bE×H):O (aw×H):=
 match kU (d.1.2.2.2.2.1,()) with
 |none=>none
 |some aa=>
  some (([aa.1]:aw),())
def TY (d:bE×H):O (aw×H):=
 match kU (d.1.2.2.2.2.1,()) with
 |none=>none
 |some aa=>
  some (([aa.1]:aw),())
def T1 (d:bE×H):O (aw×H):=
 some (([d.1.2.2.2.1]:aw),())
def rS (d:bE×H):O (aw×H):=
 bif d.1.1=1 then
  match MS (d.1,()) with
  |none=>none
  |some aa=>
   some (aa.1,())
 else
  bif d.1.1=2 then
   match MR (d.1,()) with
   |none=>none
   |some aa=>
    some (aa.1,())
  else
   bif d.1.1=3 then
    match Mq (d.1,()) with
    |none=>none
    |some aa=>
     some (aa.1,())
   else
    bif d.1.1=4 then
     match Mr (d.1,()) with
     |none=>none
     |some aa=>
      some (aa.1,())
    else
     bif d.1.1=5 then
      match TY (d.1,()) with
      |none=>none
      |some aa=>
       some (aa.1,())
     else
      bif d.1.1=6 then
       match T1 (d.1,()) with
       |none=>none
       |some aa=>
        some (aa.1,())
      else
       some ([],())
def pt (d:uz):O (Bool×H):=
 match kI (d.2.1,()) with
 |none=>none
 |some aa=>
  bif !aa.1 then
   match pE (d.1,d.2.1.1,()) with
   |none=>none
   |some ah=>
    bif ah.1 then
     match pZ (d.1.2.1,d.2.1.2.1,()) with
     |none=>none
     |some aS=>
      some ((decide (aS.1>=0)),())
    else
     some (false,())
  else
   some (true,())
def EC (d:uz):O (Bool×aK×H):=
 match pt (d.2.1,d.1,()) with
 |none=>none
 |some aa=>
  some ((!aa.1),d.2.1,())
def Cf (d:aw×Int×Int×aK×H):O ((aw×Int×Int×aK×H)⊕((Int×aK×H)⊕(aK×H))):=
 bif d.2.2.1<d.2.1 then
  bif 0<=d.2.2.1&&d.2.2.1<(d.1.length:Int) then
   let t0:=(d.1.getD (d.2.2.1.toNat) ([],([],())))
   match EC (t0,d.2.2.2.1,()) with
   |none=>none
   |some ah=>
    bif ah.1 then
     some (.inr (.inl (d.2.2.1,ah.2.1,())))
    else
     some (.inl (d.1,d.2.1,(i64.wrap (d.2.2.1+1)),ah.2.1,()))
  else none
 else
  some (.inr (.inr (d.2.2.2.1,())))
def QM:=b8 Cf
def QU (d:sc):O (Int×aK×H):=
 match QM (d.1,((d.1.length):Int),0,d.2.1,()) with
 |none=>none
 |some (.inl z0)=>
  some (z0.1,z0.2.1,())
 |some (.inr z0)=>
  some ((-1:Int),z0.1,())
def HU (d:sc):O (Bool×aK×H):=
 match QU (d.1,d.2.1,()) with
 |none=>none
 |some aa=>
  some ((decide (aa.1>=0)),aa.2.1,())
def Cg (d:Fx):O (Fx⊕((Int×aw×aK×H)⊕sc)):=
 bif d.2.1<d.1 then
  bif 0<=d.2.1&&d.2.1<(d.2.2.1.length:Int) then
   let t0:=(d.2.2.1.getD (d.2.1.toNat) ([],([],())))
   match EC (t0,d.2.2.2.1,()) with
   |none=>none
   |some ah=>
    bif ah.1 then
     some (.inr (.inl (d.2.1,d.2.2.1,ah.2.1,())))
    else
     some (.inl (d.1,(i64.wrap (d.2.1+1)),d.2.2.1,ah.2.1,()))
  else none
 else
  some (.inr (.inr (d.2.2.1,d.2.2.2.1,())))
def Qr:=b8 Cg
def QV (d:sc):O (Int×aw×aK×H):=
 match Qr (((d.1.length):Int),0,d.1,d.2.1,()) with
 |none=>none
 |some (.inl z0)=>
  some (z0.1,z0.2.1,z0.2.2.1,())
 |some (.inr z0)=>
  some ((-1:Int),z0.1,z0.2.1,())
def HV (d:sc):O (Bool×aw×aK×H):=
 match QV (d.1,d.2.1,()) with
 |none=>none
 |some aa=>
  some ((decide (aa.1>=0)),aa.2.1,aa.2.2.1,())
def KV (d:bE×aK×H):O (Bool×aK×H):=
 match h1 (d.1,()) with
 |none=>none
 |some aa=>
  bif (!(!aa.1)) then
   match rS (d.1,()) with
   |none=>none
   |some ah=>
    match HU (ah.1,d.2.1,()) with
    |none=>none
    |some aS=>
     bif !aS.1 then
      match qk (d.1,()) with
      |none=>none
      |some bV=>
       match HV (bV.1,aS.2.1,()) with
       |none=>none
       |some dE=>
        some (dE.1,dE.2.2.1,())
     else
      some (true,aS.2.1,())
  else
   some (true,d.2.1,())
def B1 (d:cD×Int×Int×aK×H):O ((cD×Int×Int×aK×H)⊕((Int×aK×H)⊕(aK×H))):=
 bif d.2.2.1<d.2.1 then
  bif 0<=d.2.2.1&&d.2.2.1<(d.1.length:Int) then
   let t0:=(d.1.getD (d.2.2.1.toNat) (0,([],([],(([],([],())),([],([],(0,()))))))))
   match KV (t0,d.2.2.2.1,()) with
   |none=>none
   |some ah=>
    bif ah.1 then
     some (.inr (.inl (d.2.2.1,ah.2.1,())))
    else
     some (.inl (d.1,d.2.1,(i64.wrap (d.2.2.1+1)),ah.2.1,()))
  else none
 else
  some (.inr (.inr (d.2.2.2.1,())))
def Q0:=b8 B1
def io (d:cD×aK×H):O (Int×aK×H):=
 match Q0 (d.1,((d.1.length):Int),0,d.2.1,()) with
 |none=>none
 |some (.inl z0)=>
  some (z0.1,z0.2.1,())
 |some (.inr z0)=>
  some ((-1:Int),z0.1,())
def Ih (d:cD×aK×H):O (Bool×aK×H):=
 match io (d.1,d.2.1,()) with
 |none=>none
 |some aa=>
  some ((decide (aa.1>=0)),aa.2.1,())
def wa (d:Ur):O (Ur⊕((Bool×H)⊕Ar)):=
 bif d.2.2.2.1<d.2.2.1 then
  bif 0<=d.2.2.2.1&&d.2.2.2.1<(d.2.1.length:Int) then
   let t0:=(d.2.1.getD (d.2.2.2.1.toNat) [])
   let t1:=(Op.bytesLess t0 d.1||decide ((t0:N)=d.1))
   bif !t1 then
    let t2:=(!decide ((d.2.2.2.2.2.1.2.1:N)=[]))
    bif t2 then
     bif (!(Op.bytesLess t0 d.2.2.2.2.2.1.2.1)) then
      some (.inr (.inl (false,())))
     else
      let t3:=i64.wrap (d.2.2.2.1+1)
      some (.inl (t0,d.2.1,d.2.2.1,t3,d.2.2.2.2.1,d.2.2.2.2.2.1,()))
    else
     let t3:=i64.wrap (d.2.2.2.1+1)
     some (.inl (t0,d.2.1,d.2.2.1,t3,d.2.2.2.2.1,d.2.2.2.2.2.1,()))
   else
    some (.inr (.inl (false,())))
  else none
 else
  some (.inr (.inr (d.2.2.2.2.1,d.2.2.2.2.2.1,())))
def MU:=b8 wa
def Ee (d:UY):O (UY⊕((Bool×H)⊕Ar)):=
 bif d.2.2.1<d.2.1 then
  bif 0<=d.2.2.1&&d.2.2.1<(d.1.length:Int) then
   let t0:=(d.1.getD (d.2.2.1.toNat) 0)
   bif (!(decide (t0<0))) then
    bif (!(decide (t0>=4096))) then
     bif 0<=d.2.2.1&&d.2.2.1<(d.2.2.2.1.2.2.2.1.length:Int) then
      let t1:=(d.2.2.2.1.2.2.2.1.getD (d.2.2.1.toNat) ((0,(0,())),((0,(0,())),())))
      match KG (t1,()) with
      |none=>none
      |some aS=>
       bif !aS.1 then
        some (.inr (.inl (false,())))
       else
        some (.inl (d.1,d.2.1,(i64.wrap (d.2.2.1+1)),d.2.2.2.1,d.2.2.2.2.1,()))
     else none
    else
     some (.inr (.inl (false,())))
   else
    some (.inr (.inl (false,())))
  else none
 else
  some (.inr (.inr (d.2.2.2.1,d.2.2.2.2.1,())))
def MV:=b8 Ee
def KE (d:Bool×cz×aK×H):O (Bool×H):=
 bif d.1 then
  some (false,())
 else
  match MU (d.2.2.1.1,d.2.1.2.1,((d.2.1.2.1.length):Int),0,d.2.1,d.2.2.1,()) with
  |none=>none
  |some (.inl z0)=>
   some (z0.1,())
  |some (.inr z0)=>
   match MV (z0.1.2.2.1,((z0.1.2.2.1.length):Int),0,z0.1,z0.2.1,()) with
   |none=>none
   |some (.inl aF)=>
    some (aF.1,())
   |some (.inr aF)=>
    match Ih (aF.1.2.2.2.2.1,aF.2.1,()) with
    |none=>none
    |some aS=>
     some ((!aS.1),())
def tH (d:Ar):O (Bool×H):=
 let t0:=(decide ((((d.1.2.2.1.length):Int):Int)=0))
 bif t0 then
  let t1:=(i64.wrap (((d.1.2.1.length):Int)+((d.1.2.2.2.1.length):Int)))
  let t2:=(i64.wrap (t1+((d.1.2.2.2.2.1.length):Int)))
  bif t2=0 then
   match F3 (d.1.1,()) with
   |none=>none
   |some bV=>
    bif bV.1 then
     match HK (d.1.1,d.2.1,()) with
     |none=>none
     |some dE=>
      some ((!dE.1),())
    else
     some (false,())
  else
   some (false,())
 else
  let t1:=(decide ((((d.1.1.length):Int):Int)>0))
  bif !t1 then
   let t2:=(!decide ((((d.1.2.2.2.1.length):Int):Int)=((d.1.2.2.1.length):Int)))
   bif !t2 then
    let t3:=(i64.wrap (((d.1.2.2.1.length):Int)-1))
    let t4:=(!decide ((((d.1.2.1.length):Int):Int)=t3))
    KE (t4,d.1,d.2.1,())
   else
    KE (true,d.1,d.2.1,())
  else
   KE (true,d.1,d.2.1,())
def tG (d:pM):O (Int×Int×Int×Int×H):=
 let t0:Int:=(if ((i64.wrap (d.2.2.1+d.1)):Int)<0 then 0 else (i64.wrap (d.2.2.1+d.1)))
 let t1:Int:=(if (1000000000000000:Int)<t0 then 1000000000000000 else t0)
 let t2:Int:=(if (1000000000000000:Int)<(i64.wrap (d.2.2.2.1+d.2.1)) then 1000000000000000 else (i64.wrap (d.2.2.2.1+d.2.1)))
 some (t1,t2,d.2.2.2.2.1,d.2.2.2.2.2.1,())
def tn (d:pM):O (Int×Int×Int×Int×H):=
 let t0:Int:=(if ((i64.wrap (d.2.2.2.2.1+d.1)):Int)<0 then 0 else (i64.wrap (d.2.2.2.2.1+d.1)))
 let t1:Int:=(if (1000000000000000:Int)<t0 then 1000000000000000 else t0)
 let t2:=i64.wrap (d.2.2.2.2.2.1+d.2.1)
 let t3:Int:=(if (1000000000000000:Int)<t2 then 1000000000000000 else t2)
 some (d.2.2.1,d.2.2.2.1,t1,t3,())
def SD (d:iL):O (Int×H):=some ((fun a c=>Lib.indexByte a c.toNat.toUInt8) d.1 d.2.1,())
def Wh (d:iL):O (Int×H):=
 match SD (d.1,d.2.1,()) with
 |none=>none
 |some aa=>
  some (aa.1,())
def air (d:Int×H):O (Bool×H):=
 bif (0:Int)<=d.1 then
  bif d.1<55296 then
   some (true,())
  else
   bif (57343:Int)<d.1 then
    bif d.1<=1114111 then
     some (true,())
    else
     some (false,())
   else
    some (false,())
 else
  bif (57343:Int)<d.1 then
   bif d.1<=1114111 then
    some (true,())
   else
    some (false,())
  else
   some (false,())
def aiF (d:iL):O (iL⊕((Int×H)⊕H)):=
 bif d.2.1<(d.1.length:Int) then
  let t0:=(decide (((oY d.1 d.2.1).1:Int)=65533))
  bif t0 then
   some (.inr (.inl (d.2.1,())))
  else
   some (.inl (d.1,(d.2.1+(oY d.1 d.2.1).2),()))
 else
  some (.inr (.inr (())))
def aiI:=b8 aiF
def aiH (d:Lk):O (Int×H):=
 bif d.2.2.1 then
  match Wh (d.1,(IntKind.u8.wrap d.2.1),()) with
  |none=>none
  |some aa=>
   some (aa.1,())
 else
  bif d.2.1=65533 then
   match aiI (d.1,0,()) with
   |none=>none
   |some (.inl z0)=>
    some (z0.1,())
   |some (.inr z0)=>
    some ((-1:Int),())
  else
   match air (d.2.1,()) with
   |none=>none
   |some aa=>
    bif !aa.1 then
     some ((-1:Int),())
    else none
def JL (d:iL):O (Int×H):=
 bif (0:Int)<=d.2.1 then
  aiH (d.1,d.2.1,(decide (d.2.1<128)),())
 else
  aiH (d.1,d.2.1,false,())
def ah7 (d:Int×H):O (Bool×H):=
 some ((decide (d.1>8)),())
def aiv (d:cp):O (cp⊕((Int×H)⊕H)):=
 bif d.2.2.1<(d.2.1.length:Int) then
  match JL (d.1,(oY d.2.1 d.2.2.1).1,()) with
  |none=>none
  |some aa=>
   bif aa.1>=0 then
    some (.inr (.inl (d.2.2.1,())))
   else
    some (.inl (d.1,d.2.1,(d.2.2.1+(oY d.2.1 d.2.2.1).2),()))
 else
  some (.inr (.inr (())))
def aix:=b8 aiv
def To (d:aK):O (Int×H):=
 let t0:=decide ((d.2.1:N)=[])
 bif t0 then
  some ((-1:Int),())
 else
  let t1:=(decide ((((d.2.1.length):Int):Int)=1))
  bif t1 then
   bif (0:Int)<(d.2.1.length:Int) then
    let t2:=(IntKind.i32.wrap ((d.2.1.getD 0 0).toNat:Int))
    bif t2>=128 then
     match JL (d.1,65533,()) with
     |none=>none
     |some bV=>
      some (bV.1,())
    else
     match JL (d.1,t2,()) with
     |none=>none
     |some bV=>
      some (bV.1,())
   else none
  else
   match ah7 (((d.1.length):Int),()) with
   |none=>none
   |some aS=>
    bif aS.1 then
     none
    else
     match aix (d.2.1,d.1,0,()) with
     |none=>none
     |some (.inl z3)=>
      some (z3.1,())
     |some (.inr z3)=>
      some ((-1:Int),())
def W1 (d:aK):O (Int×H):=DC (To d) (Bq d)
def YH (d:Ap):O (N×Int×N×N×Int×Int×N×H):=
 match W1 (d.1,([1,2,3]:N),()) with
 |none=>none
 |some aa=>
  bif aa.1<0 then
   some ([],0,d.1,d.2.1,d.2.2.1,d.2.2.2.1,d.2.2.2.2.1,())
  else
   bif (0:Int)<=aa.1&&aa.1<=(d.1.length:Int) then
    let t1:=(List.drop 0 (List.take (aa.1.toNat) d.1))
    bif 0<=aa.1&&aa.1<(d.1.length:Int) then
     let t2:Int:=((d.1.getD (aa.1.toNat) 0).toNat:Int)
     bif (0<=(i64.wrap (aa.1+1))&&((i64.wrap (aa.1+1)):Int)<=(d.1.length:Int)&&((d.1.length:Int):Int)<=(d.1.length:Int)) then
      let t3:=(List.drop (Int.toNat (i64.wrap (aa.1+1))) (List.take (Int.toNat (d.1.length:Int)) d.1))
      some (t1,t2,t3,d.2.1,d.2.2.1,d.2.2.2.1,d.2.2.2.2.1,())
     else none
    else none
   else none
def V2 (d:Uv):O Ap:=
 bif d.2.1 then
  bif (0:Int)<(d.2.2.1.length:Int) then
   let t0:=i64.wrap ((d.2.2.1.getD 0 0).toNat:Int)
   let t1:=(i64.wrap (t0*2^(min (Int.toNat 8) i64.bits)))
   bif (1:Int)<(d.2.2.1.length:Int) then
    let t2:Int:=((d.2.2.1.getD (Int.toNat 1) 0).toNat:Int)
    let t3:=(i64.wrap ((BitVec.ofInt i64.bits t1 ||| BitVec.ofInt i64.bits (i64.wrap t2)).toNat:Int))
    some (d.2.2.1,d.2.2.2.1,d.2.2.2.2.1,t3,d.2.2.2.2.2.2.1,())
   else none
  else none
 else
  bif d.1=3 then
   some (d.2.2.1,d.2.2.2.1,d.2.2.2.2.1,d.2.2.2.2.2.1,d.2.2.1,())
  else
   some (d.2.2.1,d.2.2.2.1,d.2.2.2.2.1,d.2.2.2.2.2.1,d.2.2.2.2.2.2.1,())
def V1 (d:Uv):O Ap:=
 bif d.2.1 then
  some (d.2.2.1,d.2.2.2.1,4,d.2.2.2.2.2.1,d.2.2.2.2.2.2.1,())
 else
  bif d.1=2 then
   let t0:=(decide ((((d.2.2.1.length):Int):Int)=2))
   V2 (d.1,t0,d.2.2.1,d.2.2.2.1,d.2.2.2.2.1,d.2.2.2.2.2.1,d.2.2.2.2.2.2.1,())
  else
   V2 (d.1,false,d.2.2.1,d.2.2.2.1,d.2.2.2.2.1,d.2.2.2.2.2.1,d.2.2.2.2.2.2.1,())
def XO (d:Ap):O Ap:=
 match JK (d.1,([6]:N),()) with
 |none=>none
 |some aa=>
  match YH (aa.1,d.2.1,d.2.2.1,d.2.2.2.1,d.2.2.2.2.1,()) with
  |none=>none
  |some ah=>
   bif aa.2.1 then
    V1 (ah.2.1,(decide (ah.2.1=1)),ah.2.2.1,ah.1,(i64.wrap ah.2.1),ah.2.2.2.2.2.1,ah.2.2.2.2.2.2.1,())
   else
    V1 (ah.2.1,false,ah.2.2.1,ah.1,(i64.wrap ah.2.1),ah.2.2.2.2.2.1,ah.2.2.2.2.2.2.1,())
def ahP (d:N×N×Int×Bool×H):O (Int×H):=
 bif d.2.2.2.1 then
  some (0,())
 else
  bif d.2.2.1=1 then
   bif (0:Int)<(d.2.1.length:Int) then
    match SD (d.1,((d.2.1.getD 0 0).toNat:Int),()) with
    |none=>none
    |some aa=>
     some (aa.1,())
   else none
  else
   let t0:=(decide (d.2.2.1>=((d.1.length):Int)))
   bif t0 then
    some ((-1:Int),())
   else none
def ahT (d:aK):O (Int×H):=
 let t0:=(decide ((((d.2.1.length):Int):Int)=0))
 bif !t0 then
  ahP (d.1,d.2.1,((d.2.1.length):Int),(decide ((d.2.1:N)=d.1)),())
 else
  ahP (d.1,d.2.1,((d.2.1.length):Int),true,())
def ah2 (d:aK):O Ao:=
 match ahT (d.1,d.2.1,()) with
 |none=>none
 |some aa=>
  bif aa.1>=0 then
   bif (0:Int)<=aa.1&&aa.1<=(d.1.length:Int) then
    let t1:=(List.drop 0 (List.take (aa.1.toNat) d.1))
    let t2:=(i64.wrap (aa.1+((d.2.1.length):Int)))
    bif (0<=t2&&t2<=(d.1.length:Int)&&((d.1.length:Int):Int)<=(d.1.length:Int)) then
     let t3:=(List.drop (t2.toNat) (List.take (Int.toNat (d.1.length:Int)) d.1))
     some (t1,t3,true,())
    else none
   else none
  else
   some (d.1,[],false,())
def abn (d:aK):O Ao:=
 match ah2 (d.1,d.2.1,()) with
 |none=>none
 |some aa=>
  some (aa.1,aa.2.1,aa.2.2.1,())
def Zd (d:Int×H):O (Bool×H):=
 bif (!(decide (d.1<33))) then
  bif (!(decide (d.1>126))) then
   some ((decide (d.1=47)),())
  else
   some (true,())
 else
  some (true,())
def aiJ (d:Bool×N×Int×H):O ((Bool×N×Int×H)⊕((Int×H)⊕H)):=
 bif d.2.2.1<(d.2.1.length:Int) then
  match Zd ((oY d.2.1 d.2.2.1).1,()) with
  |none=>none
  |some aa=>
   bif (aa.1==d.1) then
    some (.inr (.inl (d.2.2.1,())))
   else
    some (.inl (d.1,d.2.1,(d.2.2.1+(oY d.2.1 d.2.2.1).2),()))
 else
  some (.inr (.inr (())))
def aiL:=b8 aiJ
def V4 (d:w6):O (Int×H):=
 match aiL (d.2.1,d.1,0,()) with
 |none=>none
 |some (.inl z0)=>
  some (z0.1,())
 |some (.inr z0)=>
  some ((-1:Int),())
def Wi (d:N×H):O (Int×H):=
 match V4 (d.1,true,()) with
 |none=>none
 |some aa=>
  some (aa.1,())
def Oa (d:N×H):O (Bool×H):=
 let t0:=decide ((d.1:N)=[])
 bif !t0 then
  let t1:=(decide ((((d.1.length):Int):Int)>12))
  bif !t1 then
   let t2:=decide ((d.1:N)=([46]:N))
   bif !t2 then
    let t3:=decide ((d.1:N)=([46,46]:N))
    bif t3 then
     some (false,())
    else
     match Wi (d.1,()) with
     |none=>none
     |some dE=>
      some ((decide (dE.1<0)),())
   else
    some (false,())
  else
   some (false,())
 else
  some (false,())
def Z8 (d:N×H):O ((N×H)⊕((Bool×H)⊕H)):=
 let t0:=(!decide ((d.1:N)=[]))
 bif t0 then
  match abn (d.1,([47]:N),()) with
  |none=>none
  |some ah=>
   bif (!(!ah.2.2.1)) then
    match Oa (ah.1,()) with
    |none=>none
    |some aS=>
     bif !aS.1 then
      some (.inr (.inl (false,())))
     else
      some (.inl (ah.2.1,()))
   else
    some (.inr (.inl (false,())))
 else
  some (.inr (.inr (())))
def aaa:=b8 Z8
def Oo (d:N×H):O (Bool×H):=
 match aaa (d.1,()) with
 |none=>none
 |some (.inl z0)=>
  some (z0.1,())
 |some (.inr z0)=>
  some (true,())
def ahS (d:Lk):O (iL⊕((N×H)⊕H)):=
 bif d.2.2.1 then
  let t0:=(i64.wrap (((d.1.length):Int)-1))
  bif (0:Int)<=t0&&t0<=(d.1.length:Int) then
   let t1:=(List.drop 0 (List.take (t0.toNat) d.1))
   some (.inl (t1,d.2.1,()))
  else none
 else
  some (.inr (.inl (d.1,())))
def aic (d:iL):O (iL⊕((N×H)⊕H)):=
 let t0:=(decide ((((d.1.length):Int):Int)>0))
 bif t0 then
  let t1:=(i64.wrap (((d.1.length):Int)-1))
  bif 0<=t1&&t1<(d.1.length:Int) then
   let t2:Int:=((d.1.getD (t1.toNat) 0).toNat:Int)
   ahS (d.1,d.2.1,(decide (t2=d.2.1)),())
  else none
 else
  ahS (d.1,d.2.1,false,())
def aie:=b8 aic
def aiy (d:iL):O (N×H):=
 match aie (d.1,d.2.1,()) with
 |none=>none
 |some (.inl z0)=>
  some (z0.1,())
 |some (.inr z0)=>
  none
def ahZ (d:Lk):O (iL⊕((N×H)⊕H)):=
 bif d.2.2.1 then
  bif ((1:Int)<=(d.1.length:Int)&&((d.1.length:Int):Int)<=(d.1.length:Int)) then
   let t0:=(List.drop (Int.toNat 1) (List.take (Int.toNat (d.1.length:Int)) d.1))
   some (.inl (t0,d.2.1,()))
  else none
 else
  some (.inr (.inl (d.1,())))
def aip (d:iL):O (iL⊕((N×H)⊕H)):=
 let t0:=(decide ((((d.1.length):Int):Int)>0))
 bif t0 then
  bif (0:Int)<(d.1.length:Int) then
   let t1:=(decide ((((d.1.getD 0 0).toNat:Int):Int)=d.2.1))
   ahZ (d.1,d.2.1,t1,())
  else none
 else
  ahZ (d.1,d.2.1,false,())
def v6:=b8 aip
def aiM (d:iL):O (N×H):=
 match v6 (d.1,d.2.1,()) with
 |none=>none
 |some (.inl z0)=>
  some (z0.1,())
 |some (.inr z0)=>
  none
def Wk (d:Ao):O (N×H):=
 bif d.2.2.1 then
  bif (0:Int)<(d.2.1.length:Int) then
   match aiy (d.1,((d.2.1.getD 0 0).toNat:Int),()) with
   |none=>none
   |some aa=>
    bif (0:Int)<(d.2.1.length:Int) then
     match aiM (aa.1,((d.2.1.getD 0 0).toNat:Int),()) with
     |none=>none
     |some ah=>
      some (ah.1,())
    else none
  else none
 else none
def Wj (d:Ao):O (N×H):=
 bif d.2.2.1 then
  some (d.1,())
 else
  let t0:=(decide ((((d.2.1.length):Int):Int)=1))
  bif t0 then
   bif (0:Int)<(d.2.1.length:Int) then
    let t1:=(decide ((((d.2.1.getD 0 0).toNat:Int):Int)<128))
    Wk (d.1,d.2.1,t1,())
   else none
  else
   Wk (d.1,d.2.1,false,())
def Mk (d:aK):O (N×H):=
 let t0:=decide ((d.1:N)=[])
 bif !t0 then
  let t1:=decide ((d.2.1:N)=[])
  Wj (d.1,d.2.1,t1,())
 else
  Wj (d.1,d.2.1,true,())
def aaX (d:aK):O (N×H):=DC (Mk d) (Bh d)
def Ks (d:w6):O (Bool×H):=
 bif d.2.1 then
  some (false,())
 else
  bif (9:Int)<=(d.1.length:Int) then
   let t0:=(List.drop (Int.toNat 1) (List.take (Int.toNat 9) d.1))
   match aaX (t0,([48,49,50,51,52,53,54,55,56,57,97,98,99,100,101,102]:N),()) with
   |none=>none
   |some ah=>
    let t2:=decide ((ah.1:N)=[])
    some (t2,())
  else none
def aa8 (d:N×H):O (Bool×H):=
 let t0:=(!decide ((((d.1.length):Int):Int)=10))
 bif !t0 then
  bif (0:Int)<(d.1.length:Int) then
   let t1:=(!decide ((((d.1.getD 0 0).toNat:Int):Int)=5))
   bif !t1 then
    bif (1:Int)<(d.1.length:Int) then
     let t2:Int:=((d.1.getD (Int.toNat 1) 0).toNat:Int)
     bif (!(decide (t2>55))) then
      bif (9:Int)<(d.1.length:Int) then
       let t3:Int:=((d.1.getD (Int.toNat 9) 0).toNat:Int)
       Ks (d.1,(!decide (t3=47)),())
      else none
     else
      Ks (d.1,true,())
    else none
   else
    Ks (d.1,true,())
  else none
 else
  Ks (d.1,true,())
def vP (d:Bool×j5×H):O (H⊕iL):=
 bif d.1 then
  bif List.length ([6]:N)+d.2.1.1.length<=bC then
   bif (List.length (([6]:N)++d.2.1.1)+List.length ([1]:N)<=bC) then
    let t0:N:=((([6]:N)++d.2.1.1)++([1]:N))
    some (.inr (t0,0,()))
   else none
  else none
 else
  some (.inl (()))
def tf (d:FC):O (H⊕iL):=
 bif d.1 then
  bif d.2.1.1.length+List.length ([3]:N)<=bC then
   bif (List.length (d.2.1.1++([3]:N))+d.2.1.2.2.2.1.length<=bC) then
    let t0:N:=((d.2.1.1++([3]:N))++d.2.1.2.2.2.1)
    some (.inr (t0,0,()))
   else none
  else none
 else
  bif d.2.1.2.1=4 then
   let t0:=(az.eqb hG d.2.1 (d.2.2.1,(d.2.2.2.1,(d.2.2.2.2.1,(d.2.2.2.2.2.1,())))))
   match vP (t0,d.2.1,()) with
   |none=>none
   |some (.inl aF)=>
    some (.inl (()))
   |some (.inr aF)=>
    some (.inr (aF.1,aF.2.1,()))
  else
   match vP (false,d.2.1,()) with
   |none=>none
   |some (.inl z0)=>
    some (.inl (()))
   |some (.inr z0)=>
    some (.inr (z0.1,z0.2.1,()))
def q0 (d:FC):O (H⊕iL):=
 bif d.1 then
  let t0:Int:=(Int.fdiv d.2.1.2.2.1 (2^(min (Int.toNat 8) i64.bits)))
  let t1:N:=(qv ([2,(IntKind.u8.wrap t0),(IntKind.u8.wrap d.2.1.2.2.1)]:cC))
  bif d.2.1.1.length+t1.length<=bC then
   some (.inr ((d.2.1.1++t1),0,()))
  else none
 else
  bif d.2.1.2.1=3 then
   let t0:=decide (d.2.1.2.2.1=0)
   bif t0 then
    match Oa (d.2.1.2.2.2.1,()) with
    |none=>none
    |some ah=>
     match tf (ah.1,d.2.1,d.2.2.1,d.2.2.2.1,d.2.2.2.2.1,d.2.2.2.2.2.1,()) with
     |none=>none
     |some (.inl z2)=>
      some (.inl (()))
     |some (.inr z2)=>
      some (.inr (z2.1,z2.2.1,()))
   else
    match tf (false,d.2.1,d.2.2.1,d.2.2.2.1,d.2.2.2.2.1,d.2.2.2.2.2.1,()) with
    |none=>none
    |some (.inl aF)=>
     some (.inl (()))
    |some (.inr aF)=>
     some (.inr (aF.1,aF.2.1,()))
  else
   match tf (false,d.2.1,d.2.2.1,d.2.2.2.1,d.2.2.2.2.1,d.2.2.2.2.2.1,()) with
   |none=>none
   |some (.inl z0)=>
    some (.inl (()))
   |some (.inr z0)=>
    some (.inr (z0.1,z0.2.1,()))
def vO (d:FC):O (H⊕iL):=
 bif d.1 then
  bif d.2.1.1.length+List.length ([1]:N)<=bC then
   some (.inr ((d.2.1.1++([1]:N)),0,()))
  else none
 else
  bif d.2.1.2.1=2 then
   let t0:=decide ((d.2.1.2.2.2.1:N)=[])
   bif t0 then
    let t1:=decide (d.2.1.2.2.1>=0)
    bif t1 then
     let t2:=decide (d.2.1.2.2.1<=60000)
     match q0 (t2,d.2.1,d.2.2.1,d.2.2.2.1,d.2.2.2.2.1,d.2.2.2.2.2.1,()) with
     |none=>none
     |some (.inl z3)=>
      some (.inl (()))
     |some (.inr z3)=>
      some (.inr (z3.1,z3.2.1,()))
    else
     match q0 (false,d.2.1,d.2.2.1,d.2.2.2.1,d.2.2.2.2.1,d.2.2.2.2.2.1,()) with
     |none=>none
     |some (.inl z2)=>
      some (.inl (()))
     |some (.inr z2)=>
      some (.inr (z2.1,z2.2.1,()))
   else
    match q0 (false,d.2.1,d.2.2.1,d.2.2.2.1,d.2.2.2.2.1,d.2.2.2.2.2.1,()) with
    |none=>none
    |some (.inl aF)=>
     some (.inl (()))
    |some (.inr aF)=>
     some (.inr (aF.1,aF.2.1,()))
  else
   match q0 (false,d.2.1,d.2.2.1,d.2.2.2.1,d.2.2.2.2.1,d.2.2.2.2.2.1,()) with
   |none=>none
   |some (.inl z0)=>
    some (.inl (()))
   |some (.inr z0)=>
    some (.inr (z0.1,z0.2.1,()))
def tg (d:FC):O (H⊕iL):=
 bif d.1 then
  bif d.2.1.2.1=1 then
   let t0:=(az.eqb hG d.2.1 (d.2.2.1,(d.2.2.2.1,(d.2.2.2.2.1,(d.2.2.2.2.2.1,())))))
   match vO (t0,d.2.1,d.2.2.1,d.2.2.2.1,d.2.2.2.2.1,d.2.2.2.2.2.1,()) with
   |none=>none
   |some (.inl aF)=>
    some (.inl (()))
   |some (.inr aF)=>
    some (.inr (aF.1,aF.2.1,()))
  else
   match vO (false,d.2.1,d.2.2.1,d.2.2.2.1,d.2.2.2.2.1,d.2.2.2.2.2.1,()) with
   |none=>none
   |some (.inl z0)=>
    some (.inl (()))
   |some (.inr z0)=>
    some (.inr (z0.1,z0.2.1,()))
 else
  some (.inl (()))
def ac7 (d:j5×H):O iL:=
 match Oo (d.1.1,()) with
 |none=>none
 |some aa=>
  bif !aa.1 then
   match aa8 (d.1.1,()) with
   |none=>none
   |some ah=>
    bif ah.1 then
     match tg ((!decide (d.1.2.1=4)),d.1,d.1.1,d.1.2.1,0,[],()) with
     |none=>none
     |some (.inl z2)=>
      some ([],12,())
     |some (.inr z2)=>
      some (z2.1,z2.2.1,())
    else
     match tg (false,d.1,d.1.1,d.1.2.1,0,[],()) with
     |none=>none
     |some (.inl z2)=>
      some ([],12,())
     |some (.inr z2)=>
      some (z2.1,z2.2.1,())
  else
   match tg (true,d.1,d.1.1,d.1.2.1,0,[],()) with
   |none=>none
   |some (.inl aF)=>
    some ([],12,())
   |some (.inr aF)=>
    some (aF.1,aF.2.1,())
def pw (d:N×H):O (j5×Int×H):=
 match XO (d.1,[],0,0,[],()) with
 |none=>none
 |some aa=>
  match ac7 ((aa.2.1,(aa.2.2.1,(aa.2.2.2.1,(aa.2.2.2.2.1,())))),()) with
  |none=>none
  |some ah=>
   bif (!(!decide (ah.2.1=0))) then
    bif (!((ah.1:N)=d.1)) then
     some (([],(0,(0,([],())))),12,())
    else
     some ((aa.2.1,(aa.2.2.1,(aa.2.2.2.1,(aa.2.2.2.2.1,())))),0,())
   else
    some (([],(0,(0,([],())))),12,())
def zK (d:pM):O (Int×Int×Int×Int×H):=
 match tG (d.1,d.2.1,d.2.2.1,d.2.2.2.1,d.2.2.2.2.1,d.2.2.2.2.2.1,()) with
 |none=>none
 |some aa=>
  match tn (d.1,d.2.1,aa.1,aa.2.1,aa.2.2.1,aa.2.2.2.1,()) with
  |none=>none
  |some ah=>
   some (ah.1,ah.2.1,ah.2.2.1,ah.2.2.2.1,())
def GA (d:N×H):O (Int×H):=
 let t0:=decide ((d.1:N)=[])
 bif t0 then
  some (0,())
 else
  bif (0:Int)<(d.1.length:Int) then
   let t1:=(decide ((((d.1.getD 0 0).toNat:Int):Int)=6))
   bif t1 then
    some (6,())
   else
    match Oo (d.1,()) with
    |none=>none
    |some aS=>
     bif aS.1 then
      some (1,())
     else
      bif d.1.length+List.length ([1]:N)<=bC then
       match pw ((d.1++([1]:N)),()) with
       |none=>none
       |some bV=>
        bif bV.2.1=0 then
         bif (bV.1.1:N)=d.1 then
          some (5,())
         else
          some (0,())
        else
         some (0,())
      else none
  else none
def AR (d:aK):O (Bool×H):=
 match GA (d.1,()) with
 |none=>none
 |some aa=>
  bif (!(aa.1=0)) then
   match GA (d.1,()) with
   |none=>none
   |some ah=>
    match GA (d.2.1,()) with
    |none=>none
    |some aS=>
     some ((decide (ah.1=aS.1)),())
  else
   some (false,())
def KQ (d:cp×H):O tV:=
 match pw (d.1.1,()) with
 |none=>none
 |some aa=>
  bif (!(aa.2.1=0)) then
   some ((0,(0,())),())
  else
   bif aa.1.2.1=1 then
    some ((1,(0,())),())
   else
    bif aa.1.2.1=4 then
     some ((0,(0,())),())
    else
     some ((0,(((d.1.2.1.length):Int),())),())
def DO (d:UW):O (UW⊕((Int×Int×Int×Int×H)⊕H)):=
 bif d.2.2.1<d.2.1 then
  bif 0<=d.2.2.1&&d.2.2.1<(d.1.length:Int) then
   let t0:=(d.1.getD (d.2.2.1.toNat) ([],([],(0,()))))
   match KQ (t0,()) with
   |none=>none
   |some ah=>
    let t2:=i64.wrap (d.2.2.2.2.2.1+ah.1.1)
    let t3:=i64.wrap (d.2.2.2.2.2.2.1+ah.1.2.1)
    some (.inl (d.1,d.2.1,(i64.wrap (d.2.2.1+1)),d.2.2.2.1,d.2.2.2.2.1,t2,t3,()))
  else none
 else
  some (.inr (.inl (d.2.2.2.1,d.2.2.2.2.1,d.2.2.2.2.2.1,d.2.2.2.2.2.2.1,())))
def L8:=b8 DO
def FZ (d:ak×H):O tV:=
 match L8 (d.1,((d.1.length):Int),0,0,0,0,0,()) with
 |none=>none
 |some (.inl z0)=>
  some ((z0.2.2.1,(z0.2.2.2.1,())),())
 |some (.inr z0)=>
  none
def EI (d:Uo):O (Uo⊕((cz×Int×Int×Int×Int×Int×Int×Int×Int×H)⊕H)):=
 bif d.2.2.1<d.2.1 then
  bif 0<=d.2.2.1&&d.2.2.1<(d.1.length:Int) then
   let t0:=(d.1.getD (d.2.2.1.toNat) ((0,(0,())),((0,(0,())),())))
   match tG (t0.1.1,t0.1.2.1,d.2.2.2.2.2.2.2.2.1,d.2.2.2.2.2.2.2.2.2.1,d.2.2.2.2.2.2.2.2.2.2.1,d.2.2.2.2.2.2.2.2.2.2.2.1,()) with
   |none=>none
   |some ah=>
    match tn (t0.2.1.1,t0.2.1.2.1,ah.1,ah.2.1,ah.2.2.1,ah.2.2.2.1,()) with
    |none=>none
    |some aS=>
     some (.inl (d.1,d.2.1,(i64.wrap (d.2.2.1+1)),d.2.2.2.1,d.2.2.2.2.1,d.2.2.2.2.2.1,d.2.2.2.2.2.2.1,d.2.2.2.2.2.2.2.1,aS.1,aS.2.1,aS.2.2.1,aS.2.2.2.1,()))
  else none
 else
  some (.inr (.inl (d.2.2.2.1,d.2.2.2.2.1,d.2.2.2.2.2.1,d.2.2.2.2.2.2.1,d.2.2.2.2.2.2.2.1,d.2.2.2.2.2.2.2.2.1,d.2.2.2.2.2.2.2.2.2.1,d.2.2.2.2.2.2.2.2.2.2.1,d.2.2.2.2.2.2.2.2.2.2.2.1,())))
def NX:=b8 EI
def qe (d:cD×Int×Int×Bool×Int×Int×Int×Int×Int×Int×Int×Int×bE×H):O (Ak⊕((Int×Int×Int×Int×Int×Int×Int×Int×H)⊕H)):=
 bif d.2.2.2.1 then
  match tG ((-1:Int),0,d.2.2.2.2.2.2.2.2.1,d.2.2.2.2.2.2.2.2.2.1,d.2.2.2.2.2.2.2.2.2.2.1,d.2.2.2.2.2.2.2.2.2.2.2.1,()) with
  |none=>none
  |some aa=>
   some (.inl (d.1,d.2.1,(i64.wrap (d.2.2.1+1)),d.2.2.2.2.1,d.2.2.2.2.2.1,d.2.2.2.2.2.2.1,d.2.2.2.2.2.2.2.1,aa.1,aa.2.1,aa.2.2.1,aa.2.2.2.1,()))
 else
  let t0:=decide (d.2.2.2.2.2.2.2.2.2.2.2.2.1.1=2)
  bif t0 then
   match tn ((-64:Int),0,d.2.2.2.2.2.2.2.2.1,d.2.2.2.2.2.2.2.2.2.1,d.2.2.2.2.2.2.2.2.2.2.1,d.2.2.2.2.2.2.2.2.2.2.2.1,()) with
   |none=>none
   |some ah=>
    some (.inl (d.1,d.2.1,(i64.wrap (d.2.2.1+1)),d.2.2.2.2.1,d.2.2.2.2.2.1,d.2.2.2.2.2.2.1,d.2.2.2.2.2.2.2.1,ah.1,ah.2.1,ah.2.2.1,ah.2.2.2.1,()))
  else
   let t1:=decide (d.2.2.2.2.2.2.2.2.2.2.2.2.1.1=3)
   bif t1 then
    match zK ((-1000000000000000:Int),0,d.2.2.2.2.2.2.2.2.1,d.2.2.2.2.2.2.2.2.2.1,d.2.2.2.2.2.2.2.2.2.2.1,d.2.2.2.2.2.2.2.2.2.2.2.1,()) with
    |none=>none
    |some aS=>
     some (.inl (d.1,d.2.1,(i64.wrap (d.2.2.1+1)),d.2.2.2.2.1,d.2.2.2.2.2.1,d.2.2.2.2.2.2.1,d.2.2.2.2.2.2.2.1,aS.1,aS.2.1,aS.2.2.1,aS.2.2.2.1,()))
   else
    let t2:=decide (d.2.2.2.2.2.2.2.2.2.2.2.2.1.1=6)
    bif t2 then
     some (.inl (d.1,d.2.1,(i64.wrap (d.2.2.1+1)),d.2.2.2.2.1,d.2.2.2.2.2.1,d.2.2.2.2.2.2.1,d.2.2.2.2.2.2.2.1,d.2.2.2.2.2.2.2.2.1,d.2.2.2.2.2.2.2.2.2.1,d.2.2.2.2.2.2.2.2.2.2.1,d.2.2.2.2.2.2.2.2.2.2.2.1,()))
    else
     match AR (d.2.2.2.2.2.2.2.2.2.2.2.2.1.2.2.2.2.1,d.2.2.2.2.2.2.2.2.2.2.2.2.1.2.2.2.2.2.1,()) with
     |none=>none
     |some bV=>
      bif !bV.1 then
       match zK ((-1000000000000000:Int),1000000000000000,d.2.2.2.2.2.2.2.2.1,d.2.2.2.2.2.2.2.2.2.1,d.2.2.2.2.2.2.2.2.2.2.1,d.2.2.2.2.2.2.2.2.2.2.2.1,()) with
       |none=>none
       |some dE=>
        some (.inl (d.1,d.2.1,(i64.wrap (d.2.2.1+1)),d.2.2.2.2.1,d.2.2.2.2.2.1,d.2.2.2.2.2.2.1,d.2.2.2.2.2.2.2.1,dE.1,dE.2.1,dE.2.2.1,dE.2.2.2.1,()))
      else
       let t4:=decide (d.2.2.2.2.2.2.2.2.2.2.2.2.1.1=5)
       bif t4 then
        match tG ((-1000000000000000:Int),d.2.2.2.2.2.2.2.2.2.1,d.2.2.2.2.2.2.2.2.1,d.2.2.2.2.2.2.2.2.2.1,d.2.2.2.2.2.2.2.2.2.2.1,d.2.2.2.2.2.2.2.2.2.2.2.1,()) with
        |none=>none
        |some gj=>
         match tn ((-1000000000000000:Int),gj.2.2.2.1,gj.1,gj.2.1,gj.2.2.1,gj.2.2.2.1,()) with
         |none=>none
         |some iS=>
          some (.inl (d.1,d.2.1,(i64.wrap (d.2.2.1+1)),d.2.2.2.2.1,d.2.2.2.2.2.1,d.2.2.2.2.2.2.1,d.2.2.2.2.2.2.2.1,iS.1,iS.2.1,iS.2.2.1,iS.2.2.2.1,()))
       else
        match zK ((-1000000000000000:Int),0,d.2.2.2.2.2.2.2.2.1,d.2.2.2.2.2.2.2.2.2.1,d.2.2.2.2.2.2.2.2.2.2.1,d.2.2.2.2.2.2.2.2.2.2.2.1,()) with
        |none=>none
        |some gj=>
         some (.inl (d.1,d.2.1,(i64.wrap (d.2.2.1+1)),d.2.2.2.2.1,d.2.2.2.2.2.1,d.2.2.2.2.2.2.1,d.2.2.2.2.2.2.2.1,gj.1,gj.2.1,gj.2.2.1,gj.2.2.2.1,()))
def ow (d:Bool×cD×Int×Int×Bool×Int×Int×Int×Int×Int×Int×Int×Int×bE×H):O (Ak⊕((Int×Int×Int×Int×Int×Int×Int×Int×H)⊕H)):=
 bif d.2.2.2.2.1 then
  match tG (0,1,d.2.2.2.2.2.2.2.2.2.1,d.2.2.2.2.2.2.2.2.2.2.1,d.2.2.2.2.2.2.2.2.2.2.2.1,d.2.2.2.2.2.2.2.2.2.2.2.2.1,()) with
  |none=>none
  |some aa=>
   let t1:=i64.wrap (d.2.2.2.1+1)
   some (.inl (d.2.1,d.2.2.1,t1,d.2.2.2.2.2.1,d.2.2.2.2.2.2.1,d.2.2.2.2.2.2.2.1,d.2.2.2.2.2.2.2.2.1,aa.1,aa.2.1,aa.2.2.1,aa.2.2.2.1,()))
 else
  let t0:=decide (d.2.2.2.2.2.2.2.2.2.2.2.2.2.1.1=1)
  bif t0 then
   let t1:Int:=((d.2.2.2.2.2.2.2.2.2.2.2.2.2.1.2.2.1.length):Int)
   match tn ((-64:Int),t1,d.2.2.2.2.2.2.2.2.2.1,d.2.2.2.2.2.2.2.2.2.2.1,d.2.2.2.2.2.2.2.2.2.2.2.1,d.2.2.2.2.2.2.2.2.2.2.2.2.1,()) with
   |none=>none
   |some aS=>
    let t3:=i64.wrap (d.2.2.2.1+1)
    some (.inl (d.2.1,d.2.2.1,t3,d.2.2.2.2.2.1,d.2.2.2.2.2.2.1,d.2.2.2.2.2.2.2.1,d.2.2.2.2.2.2.2.2.1,aS.1,aS.2.1,aS.2.2.1,aS.2.2.2.1,()))
  else
   let t1:=decide (d.2.2.2.2.2.2.2.2.2.2.2.2.2.1.1=2)
   bif t1 then
    qe (d.2.1,d.2.2.1,d.2.2.2.1,d.1,d.2.2.2.2.2.1,d.2.2.2.2.2.2.1,d.2.2.2.2.2.2.2.1,d.2.2.2.2.2.2.2.2.1,d.2.2.2.2.2.2.2.2.2.1,d.2.2.2.2.2.2.2.2.2.2.1,d.2.2.2.2.2.2.2.2.2.2.2.1,d.2.2.2.2.2.2.2.2.2.2.2.2.1,d.2.2.2.2.2.2.2.2.2.2.2.2.2.1,())
   else
    qe (d.2.1,d.2.2.1,d.2.2.2.1,false,d.2.2.2.2.2.1,d.2.2.2.2.2.2.1,d.2.2.2.2.2.2.2.1,d.2.2.2.2.2.2.2.2.1,d.2.2.2.2.2.2.2.2.2.1,d.2.2.2.2.2.2.2.2.2.2.1,d.2.2.2.2.2.2.2.2.2.2.2.1,d.2.2.2.2.2.2.2.2.2.2.2.2.1,d.2.2.2.2.2.2.2.2.2.2.2.2.2.1,())
def nB (d:Bool×cD×Int×Int×Int×Int×Int×Int×Int×Int×Int×Int×bE×H):O (Ak⊕((Int×Int×Int×Int×Int×Int×Int×Int×H)⊕H)):=
 let t0:=decide (d.2.2.2.2.2.2.2.2.2.2.2.2.1.1=1)
 bif t0 then
  ow (d.1,d.2.1,d.2.2.1,d.2.2.2.1,d.1,d.2.2.2.2.1,d.2.2.2.2.2.1,d.2.2.2.2.2.2.1,d.2.2.2.2.2.2.2.1,d.2.2.2.2.2.2.2.2.1,d.2.2.2.2.2.2.2.2.2.1,d.2.2.2.2.2.2.2.2.2.2.1,d.2.2.2.2.2.2.2.2.2.2.2.1,d.2.2.2.2.2.2.2.2.2.2.2.2.1,())
 else
  ow (d.1,d.2.1,d.2.2.1,d.2.2.2.1,false,d.2.2.2.2.1,d.2.2.2.2.2.1,d.2.2.2.2.2.2.1,d.2.2.2.2.2.2.2.1,d.2.2.2.2.2.2.2.2.1,d.2.2.2.2.2.2.2.2.2.1,d.2.2.2.2.2.2.2.2.2.2.1,d.2.2.2.2.2.2.2.2.2.2.2.1,d.2.2.2.2.2.2.2.2.2.2.2.2.1,())
def tC (d:Ak):O (Ak⊕((Int×Int×Int×Int×Int×Int×Int×Int×H)⊕H)):=
 bif d.2.2.1<d.2.1 then
  bif 0<=d.2.2.1&&d.2.2.1<(d.1.length:Int) then
   let t0:=(d.1.getD (d.2.2.1.toNat) (0,([],([],(([],([],())),([],([],(0,()))))))))
   match pw (t0.2.1,()) with
   |none=>none
   |some ah=>
    bif ah.2.1=0 then
     nB ((decide (ah.1.2.1=1)),d.1,d.2.1,d.2.2.1,d.2.2.2.1,d.2.2.2.2.1,d.2.2.2.2.2.1,d.2.2.2.2.2.2.1,d.2.2.2.2.2.2.2.1,d.2.2.2.2.2.2.2.2.1,d.2.2.2.2.2.2.2.2.2.1,d.2.2.2.2.2.2.2.2.2.2.1,t0,())
    else
     nB (false,d.1,d.2.1,d.2.2.1,d.2.2.2.1,d.2.2.2.2.1,d.2.2.2.2.2.1,d.2.2.2.2.2.2.1,d.2.2.2.2.2.2.2.1,d.2.2.2.2.2.2.2.2.1,d.2.2.2.2.2.2.2.2.2.1,d.2.2.2.2.2.2.2.2.2.2.1,t0,())
  else none
 else
  some (.inr (.inl (d.2.2.2.1,d.2.2.2.2.1,d.2.2.2.2.2.1,d.2.2.2.2.2.2.1,d.2.2.2.2.2.2.2.1,d.2.2.2.2.2.2.2.2.1,d.2.2.2.2.2.2.2.2.2.1,d.2.2.2.2.2.2.2.2.2.2.1,())))
def N9:=b8 tC
def abs (d:cz×H):O (eV×H):=
 let t0:=(decide ((((d.1.2.2.1.length):Int):Int)=0))
 bif t0 then
  match FZ (d.1.1,()) with
  |none=>none
  |some ah=>
   some (((ah.1.1,(ah.1.1,())),((ah.1.2.1,(ah.1.2.1,())),())),())
 else
  match NX (d.1.2.2.2.1,((d.1.2.2.2.1.length):Int),0,d.1,0,0,0,0,0,0,0,0,()) with
  |none=>none
  |some (.inl aF)=>
   match N9 (aF.1.2.2.2.2.1,((aF.1.2.2.2.2.1.length):Int),0,aF.2.1,aF.2.2.1,aF.2.2.2.1,aF.2.2.2.2.1,aF.2.2.2.2.2.1,aF.2.2.2.2.2.2.1,aF.2.2.2.2.2.2.2.1,aF.2.2.2.2.2.2.2.2.1,()) with
   |none=>none
   |some (.inl z2)=>
    some (((z2.2.2.2.2.1,(z2.2.2.2.2.2.1,())),((z2.2.2.2.2.2.2.1,(z2.2.2.2.2.2.2.2.1,())),())),())
   |some (.inr z2)=>
    none
  |some (.inr aF)=>
   none
def yP (fU:sb->O (Int×H)) (d:Int×Int×Int×Int×Int×bF×cz×aw×H):O (FA⊕((Int×H)⊕(Int×H))):=
 bif 0<=d.2.1&&d.2.1<(d.2.2.2.2.2.2.1.2.2.1.length:Int) then
  let t0:=(d.2.2.2.2.2.2.1.2.2.1.getD (d.2.1.toNat) 0)
  match d9 (d.2.2.2.2.2.1,t0,()) with
  |none=>none
  |some ah=>
   match abs (ah.1,()) with
   |none=>none
   |some aS=>
    bif 0<=d.2.1&&d.2.1<(d.2.2.2.2.2.2.1.2.2.2.1.length:Int) then
     let t3:=(d.2.2.2.2.2.2.1.2.2.2.1.getD (d.2.1.toNat) ((0,(0,())),((0,(0,())),())))
     let t4:=(!(az.eqb eL aS.1 t3))
     bif t4 then
      some (.inr (.inl (0,())))
     else
      let t5:=i64.wrap (d.2.2.2.2.1+1)
      some (.inl (d.1,d.2.2.1,d.2.2.2.1,t5,d.2.2.2.2.2.1,d.2.2.2.2.2.2.1,d.2.2.2.2.2.2.2.1,()))
    else none
 else none
def qf (fU:sb->O (Int×H)) (d:FA):O (FA⊕((Int×H)⊕(Int×H))):=
 bif d.2.2.2.1<d.2.2.1 then
  bif 0<=d.2.2.2.1&&d.2.2.2.1<(d.2.2.2.2.2.2.1.length:Int) then
   let t0:=(d.2.2.2.2.2.2.1.getD (d.2.2.2.1.toNat) ([],([],())))
   bif 0<=d.2.2.2.1&&d.2.2.2.1<(d.2.2.2.2.2.1.2.2.1.length:Int) then
    let t1:=(d.2.2.2.2.2.1.2.2.1.getD (d.2.2.2.1.toNat) 0)
    match fU (d.2.2.2.2.1,t1,t0,(i64.wrap (d.1-1)),()) with
    |none=>none
    |some aS=>
     bif (!(decide (aS.1=0))) then
      bif d.2.2.2.1>0 then
       bif (!(aS.1=d.2.1)) then
        some (.inr (.inl (0,())))
       else
        yP fU (d.1,d.2.2.2.1,aS.1,d.2.2.1,d.2.2.2.1,d.2.2.2.2.1,d.2.2.2.2.2.1,d.2.2.2.2.2.2.1,())
      else
       yP fU (d.1,d.2.2.2.1,aS.1,d.2.2.1,d.2.2.2.1,d.2.2.2.2.1,d.2.2.2.2.2.1,d.2.2.2.2.2.2.1,())
     else
      some (.inr (.inl (0,())))
   else none
  else none
 else
  some (.inr (.inr (d.2.1,())))
def DZ (fU:sb->O (Int×H)) (d:FA):O ((Int×H)⊕(Int×H)):=b8 (qf fU) d
def qg (fU:sb->O (Int×H)) (d:Int×Bool×bF×aK×cz×H):O (Int×H):=
 bif d.2.1 then
  some (0,())
 else
  match tS (d.2.2.2.2.1,()) with
  |none=>none
  |some aa=>
   bif aa.1 then
    some (1,())
   else
    match AQ (d.2.2.2.2.1,d.2.2.2.1,()) with
    |none=>none
    |some ah=>
     match DZ fU (d.1,0,((ah.1.length):Int),0,d.2.2.1,d.2.2.2.2.1,ah.1,()) with
     |none=>none
     |some (.inl z2)=>
      some (z2.1,())
     |some (.inr z2)=>
      some ((i64.wrap (z2.1+1)),())
def k7 (fU:sb->O (Int×H)) (d:sb):O (Int×H):=
 match d9 (d.1,d.2.1,()) with
 |none=>none
 |some aa=>
  bif (!(!decide (aa.2.1=0))) then
   bif (!(decide (d.2.2.2.1=0))) then
    match tH (aa.1,d.2.2.1,()) with
    |none=>none
    |some ah=>
     qg fU (d.2.2.2.1,(!ah.1),d.1,d.2.2.1,aa.1,())
   else
    qg fU (d.2.2.2.1,true,d.1,d.2.2.1,aa.1,())
  else
   qg fU (d.2.2.2.1,true,d.1,d.2.2.1,aa.1,())
def bv:Nat->sb->O (Int×H)
 |0,_=>none
 |n+1,d=>k7 (bv n) d
def ES (d:sb):O (Int×H):=bv jl d
def zR (d:c1×H):O (Bool×H):=
 match zS (d.1.2.2.1,()) with
 |none=>none
 |some aa=>
  bif aa.1 then
   match ES (d.1.1,d.1.2.1,([],([],())),64,()) with
   |none=>none
   |some ah=>
    some ((decide (ah.1>0)),())
  else
   some (false,())
def pb (fA:(c1×N×H)->O qp) (fC:(bi×H)->O (c1×Int×H)) (fM:(c1×bE×H)->O (c1×Int×H)) (fB:(c1×H)->O (Int×H)) (fK:H->O (c1×H)) (fN:(c1×aK×H)->O (Int×ak×H)) (fL:As->O (Bool×H)) (fy:(c1×H)->O (Bool×H)) (d:Bool×Int×Bool×Int×Bool×c1×cp×ak×c1×H):O ((Bool×H)⊕H):=
 bif d.2.2.2.2.1 then
  let t0:=(az.eqb bz d.2.2.2.2.2.2.1 (([99,47,120]:N),(([49]:N),(0,()))))
  bif t0 then
   bif d.1 then
    bif d.2.1=2 then
     bif !d.2.2.1 then
      bif d.2.2.2.1=1 then
       match fL (d.2.2.2.2.2.2.2.1,([(([99,47,120]:N),(([49]:N),(0,())))]:ak),()) with
       |none=>none
       |some ah=>
        bif ah.1 then
         match fy (d.2.2.2.2.2.1,()) with
         |none=>none
         |some aS=>
          bif aS.1 then
           match fy (d.2.2.2.2.2.2.2.2.1,()) with
           |none=>none
           |some bV=>
            bif bV.1 then
             match fB (d.2.2.2.2.2.1,()) with
             |none=>none
             |some dE=>
              bif dE.1=2 then
               match fB (d.2.2.2.2.2.2.2.2.1,()) with
               |none=>none
               |some gj=>
                bif gj.1=1 then
                 match fy ((([],()),(0,((0,(0,(0,()))),()))),()) with
                 |none=>none
                 |some iS=>
                  some (.inl ((!iS.1),()))
                else
                 some (.inl (false,()))
              else
               some (.inl (false,()))
            else
             some (.inl (false,()))
          else
           some (.inl (false,()))
        else
         some (.inl (false,()))
      else
       some (.inl (false,()))
     else
      some (.inl (false,()))
    else
     some (.inl (false,()))
   else
    some (.inl (false,()))
  else
   some (.inl (false,()))
 else
  some (.inl (false,()))
def Ty (fA:(c1×N×H)->O qp) (fC:(bi×H)->O (c1×Int×H)) (fM:(c1×bE×H)->O (c1×Int×H)) (fB:(c1×H)->O (Int×H)) (fK:H->O (c1×H)) (fN:(c1×aK×H)->O (Int×ak×H)) (fL:As->O (Bool×H)) (fy:(c1×H)->O (Bool×H)) (d:H):O (Bool×H):=
 match fK (()) with
 |none=>none
 |some aa=>
  match fA (aa.1,([99,47,120]:N),()) with
  |none=>none
  |some ah=>
   match fA (aa.1,([97,47,120]:N),()) with
   |none=>none
   |some aS=>
    match fN (aa.1,([],([],())),()) with
    |none=>none
    |some bV=>
     match fC ((1,(2,(1,()))),()) with
     |none=>none
     |some dE=>
      match fM (aa.1,(0,([],([],(([],([],())),([],([],(0,()))))))),()) with
      |none=>none
      |some gj=>
       match fC (aa.1.2.2.1,()) with
       |none=>none
       |some iS=>
        let t7:=decide (ah.2.2.2.1=0)
        bif t7 then
         let t8:=decide (aS.2.2.2.1=0)
         bif t8 then
          bif bV.1=0 then
           bif dE.2.1=120 then
            bif gj.2.1=50 then
             match pb fA fC fM fB fK fN fL fy (ah.2.1,ah.2.2.1,aS.2.1,aS.2.2.1,(decide (iS.2.1=0)),aa.1,ah.1,bV.2.1,iS.1,()) with
             |none=>none
             |some (.inl z9)=>
              some (z9.1,())
             |some (.inr z9)=>
              none
            else
             match pb fA fC fM fB fK fN fL fy (ah.2.1,ah.2.2.1,aS.2.1,aS.2.2.1,false,aa.1,ah.1,bV.2.1,iS.1,()) with
             |none=>none
             |some (.inl z9)=>
              some (z9.1,())
             |some (.inr z9)=>
              none
           else
            match pb fA fC fM fB fK fN fL fy (ah.2.1,ah.2.2.1,aS.2.1,aS.2.2.1,false,aa.1,ah.1,bV.2.1,iS.1,()) with
            |none=>none
            |some (.inl z9)=>
             some (z9.1,())
            |some (.inr z9)=>
             none
          else
           match pb fA fC fM fB fK fN fL fy (ah.2.1,ah.2.2.1,aS.2.1,aS.2.2.1,false,aa.1,ah.1,bV.2.1,iS.1,()) with
           |none=>none
           |some (.inl z9)=>
            some (z9.1,())
           |some (.inr z9)=>
            none
         else
          match pb fA fC fM fB fK fN fL fy (ah.2.1,ah.2.2.1,aS.2.1,aS.2.2.1,false,aa.1,ah.1,bV.2.1,iS.1,()) with
          |none=>none
          |some (.inl z9)=>
           some (z9.1,())
          |some (.inr z9)=>
           none
        else
         match pb fA fC fM fB fK fN fL fy (ah.2.1,ah.2.2.1,aS.2.1,aS.2.2.1,false,aa.1,ah.1,bV.2.1,iS.1,()) with
         |none=>none
         |some (.inl ob)=>
          some (ob.1,())
         |some (.inr ob)=>
          none
def Ny (d:H):O (Bool×H):=Ty GY Pr nf N8 NU kQ zL zR d
def A0 (d:Lm):O (Bool×H):=
 bif (!(Op.bytesLess d.2.1 d.1.1)) then
  let t0:=decide ((d.1.2.1:N)=[])
  bif !t0 then
   some ((Op.bytesLess d.2.1 d.1.2.1),())
  else
   some (true,())
 else
  some (false,())
def Jp (d:pL):O (pL⊕((Bool×cp×ak×H)⊕H)):=
 bif 0<=d.2.2.1&&d.2.2.1<(d.1.length:Int) then
  let t0:=(d.1.getD (d.2.2.1.toNat) ([],([],(0,()))))
  let t1:=(!decide ((t0.1:N)=d.2.2.2.1.1))
  bif t1 then
   bif 0<=d.2.2.1&&d.2.2.1<(d.1.length:Int) then
    let t2:=(d.1.getD (d.2.2.1.toNat) ([],([],(0,()))))
    bif ((d.2.2.2.2.1.length+List.length ([t2]:ak))*40<=bC) then
     let t3:ak:=(d.2.2.2.2.1++([t2]:ak))
     some (.inl (d.1,d.2.1,(i64.wrap (d.2.2.1+1)),d.2.2.2.1,t3,()))
    else none
   else none
  else
   some (.inl (d.1,d.2.1,(i64.wrap (d.2.2.1+1)),d.2.2.2.1,d.2.2.2.2.1,()))
 else none
def vI (d:UX):O (pL⊕((Bool×cp×ak×H)⊕H)):=
 bif d.2.2.2.1 then
  bif ((d.2.2.2.2.2.1.length+List.length ([d.2.2.2.2.1]:ak))*40<=bC) then
   let t0:ak:=(d.2.2.2.2.2.1++([d.2.2.2.2.1]:ak))
   Jp (d.1,true,d.2.2.1,d.2.2.2.2.1,t0,())
  else none
 else
  Jp (d.1,d.2.1,d.2.2.1,d.2.2.2.2.1,d.2.2.2.2.2.1,())
def vR (d:pL):O (pL⊕((Bool×cp×ak×H)⊕H)):=
 let t0:=(decide (d.2.2.1<((d.1.length):Int)))
 bif t0 then
  bif !d.2.1 then
   bif 0<=d.2.2.1&&d.2.2.1<(d.1.length:Int) then
    let t1:=(d.1.getD (d.2.2.1.toNat) ([],([],(0,()))))
    let t2:=(Op.bytesLess d.2.2.2.1.1 t1.1||decide ((d.2.2.2.1.1:N)=t1.1))
    vI (d.1,d.2.1,d.2.2.1,t2,d.2.2.2.1,d.2.2.2.2.1,())
   else none
  else
   vI (d.1,d.2.1,d.2.2.1,false,d.2.2.2.1,d.2.2.2.2.1,())
 else
  some (.inr (.inl (d.2.1,d.2.2.2.1,d.2.2.2.2.1,())))
def Xn:=b8 vR
def Eu (d:ak×cp×H):O (ak×H):=
 match Xn (d.1,false,0,d.2.1,[],()) with
 |none=>none
 |some (.inl z0)=>
  bif !z0.1 then
   bif ((z0.2.2.1.length+List.length ([z0.2.1]:ak))*40<=bC) then
    let t1:ak:=(z0.2.2.1++([z0.2.1]:ak))
    some (t1,())
   else none
  else
   some (z0.2.2.1,())
 |some (.inr z0)=>
  none
def EM (d:aw×N×Int×H):O ((aw×N×Int×H)⊕((Bool×H)⊕H)):=
 let t0:=(decide (d.2.2.1<((d.1.length):Int)))
 bif t0 then
  bif 0<=d.2.2.1&&d.2.2.1<(d.1.length:Int) then
   let t1:=(d.1.getD (d.2.2.1.toNat) ([],([],())))
   match A0 (t1,d.2.1,()) with
   |none=>none
   |some aS=>
    bif aS.1 then
     some (.inr (.inl (true,())))
    else
     some (.inl (d.1,d.2.1,(i64.wrap (d.2.2.1+1)),()))
  else none
 else
  some (.inr (.inr (())))
def abh:=b8 EM
def G0 (d:aw×N×H):O (Bool×H):=
 match abh (d.1,d.2.1,0,()) with
 |none=>none
 |some (.inl z0)=>
  some (z0.1,())
 |some (.inr z0)=>
  some (false,())
def DA (d:Fw):O (Fw⊕((ak×H)⊕H)):=
 let t0:=(decide (d.2.2.1<((d.1.length):Int)))
 bif t0 then
  bif 0<=d.2.2.1&&d.2.2.1<(d.1.length:Int) then
   let t1:=(d.1.getD (d.2.2.1.toNat) ([],([],(0,()))))
   match G0 (d.2.1,t1.1,()) with
   |none=>none
   |some aS=>
    bif !aS.1 then
     bif 0<=d.2.2.1&&d.2.2.1<(d.1.length:Int) then
      let t3:=(d.1.getD (d.2.2.1.toNat) ([],([],(0,()))))
      bif ((d.2.2.2.1.length+List.length ([t3]:ak))*40<=bC) then
       let t4:ak:=(d.2.2.2.1++([t3]:ak))
       some (.inl (d.1,d.2.1,(i64.wrap (d.2.2.1+1)),t4,()))
      else none
     else none
    else
     some (.inl (d.1,d.2.1,(i64.wrap (d.2.2.1+1)),d.2.2.2.1,()))
  else none
 else
  some (.inr (.inl (d.2.2.2.1,())))
def WX:=b8 DA
def wb (d:w1):O (ak×H):=
 match WX (d.1,d.2.1,0,[],()) with
 |none=>none
 |some (.inl z0)=>
  some (z0.1,())
 |some (.inr z0)=>
  none
def DG (d:Fw):O (Fw⊕((ak×H)⊕H)):=
 let t0:=(decide (d.2.2.1<((d.1.length):Int)))
 bif t0 then
  bif 0<=d.2.2.1&&d.2.2.1<(d.1.length:Int) then
   let t1:=(d.1.getD (d.2.2.1.toNat) ([],([],(0,()))))
   match G0 (d.2.1,t1.1,()) with
   |none=>none
   |some aS=>
    bif aS.1 then
     bif 0<=d.2.2.1&&d.2.2.1<(d.1.length:Int) then
      let t3:=(d.1.getD (d.2.2.1.toNat) ([],([],(0,()))))
      bif ((d.2.2.2.1.length+List.length ([t3]:ak))*40<=bC) then
       let t4:ak:=(d.2.2.2.1++([t3]:ak))
       some (.inl (d.1,d.2.1,(i64.wrap (d.2.2.1+1)),t4,()))
      else none
     else none
    else
     some (.inl (d.1,d.2.1,(i64.wrap (d.2.2.1+1)),d.2.2.2.1,()))
  else none
 else
  some (.inr (.inl (d.2.2.2.1,())))
def Xo:=b8 DG
def FM (d:w1):O (ak×H):=
 match Xo (d.1,d.2.1,0,[],()) with
 |none=>none
 |some (.inl z0)=>
  some (z0.1,())
 |some (.inr z0)=>
  none
def Oe (d:N×N×N×H):O w6:=
 match rF (d.1,d.2.1,()) with
 |none=>none
 |some aa=>
  bif !aa.1 then
   some ([],false,())
  else
   bif (0<=((d.2.1.length):Int)&&(((d.2.1.length):Int):Int)<=(d.1.length:Int)&&((d.1.length:Int):Int)<=(d.1.length:Int)) then
    let t1:=(List.drop (Int.toNat ((d.2.1.length):Int)) (List.take (Int.toNat (d.1.length:Int)) d.1))
    bif d.2.2.1.length+t1.length<=bC then
     some ((d.2.2.1++t1),true,())
    else none
   else none
def Kf (d:Int×bE×ak×H):O ((Int×bE×ak×H)⊕((ak×H)⊕H)):=
 let t0:=(decide (d.1<((d.2.2.1.length):Int)))
 bif t0 then
  bif 0<=d.1&&d.1<(d.2.2.1.length:Int) then
   let t1:=(d.2.2.1.getD (d.1.toNat) ([],([],(0,()))))
   match A0 (d.2.1.2.2.2.1,t1.1,()) with
   |none=>none
   |some aS=>
    bif aS.1 then
     bif 0<=d.1&&d.1<(d.2.2.1.length:Int) then
      let t3:=(List.set d.2.2.1 (d.1.toNat) ((d.2.2.1.getD (d.1.toNat) ([],([],(0,())))).1,((d.2.2.1.getD (d.1.toNat) ([],([],(0,())))).2.1,(d.2.1.2.2.2.2.2.2.1,(d.2.2.1.getD (d.1.toNat) ([],([],(0,())))).2.2.2))))
      some (.inl ((i64.wrap (d.1+1)),d.2.1,t3,()))
     else none
    else
     some (.inl ((i64.wrap (d.1+1)),d.2.1,d.2.2.1,()))
  else none
 else
  some (.inr (.inl (d.2.2.1,())))
def Ys:=b8 Kf
def Kg (d:Int×bE×ak×ak×H):O ((Int×bE×ak×ak×H)⊕((ak×H)⊕H)):=
 let t0:=(decide (d.1<((d.2.2.2.1.length):Int)))
 bif t0 then
  bif 0<=d.1&&d.1<(d.2.2.2.1.length:Int) then
   let t1:=(d.2.2.2.1.getD (d.1.toNat) ([],([],(0,()))))
   match Oe (t1.1,d.2.1.2.2.2.2.1,d.2.1.2.2.2.2.2.1,()) with
   |none=>none
   |some aS=>
    bif 0<=d.1&&d.1<(d.2.2.2.1.length:Int) then
     let t3:=(d.2.2.2.1.getD (d.1.toNat) ([],([],(0,()))))
     bif 0<=d.1&&d.1<(d.2.2.2.1.length:Int) then
      let t4:=(d.2.2.2.1.getD (d.1.toNat) ([],([],(0,()))))
      match Eu (d.2.2.1,(aS.1,(t3.2.1,(t4.2.2.1,()))),()) with
      |none=>none
      |some gj=>
       some (.inl ((i64.wrap (d.1+1)),d.2.1,gj.1,d.2.2.2.1,()))
     else none
    else none
  else none
 else
  some (.inr (.inl (d.2.2.1,())))
def Mg:=b8 Kg
def pi (d:ak×bE×H):O (ak×H):=
 bif d.2.1.1=1 then
  match Eu (d.1,(d.2.1.2.1,(d.2.1.2.2.1,(d.2.1.2.2.2.2.2.2.1,()))),()) with
  |none=>none
  |some aa=>
   some (aa.1,())
 else
  bif d.2.1.1=2 then
   match oO (d.2.1.2.1,()) with
   |none=>none
   |some aa=>
    match wb (d.1,([aa.1]:aw),()) with
    |none=>none
    |some ah=>
     some (ah.1,())
  else
   bif d.2.1.1=3 then
    match wb (d.1,([d.2.1.2.2.2.1]:aw),()) with
    |none=>none
    |some aa=>
     some (aa.1,())
   else
    bif d.2.1.1=6 then
     bif ((List.length ([]:ak)+d.1.length)*40<=bC) then
      let t0:ak:=([]++d.1)
      match Ys (0,d.2.1,t0,()) with
      |none=>none
      |some (.inl aF)=>
       some (aF.1,())
      |some (.inr aF)=>
       none
     else none
    else
     match nX (d.2.1.2.2.2.2.2.1,()) with
     |none=>none
     |some aa=>
      match wb (d.1,([aa.1]:aw),()) with
      |none=>none
      |some ah=>
       match nX (d.2.1.2.2.2.2.1,()) with
       |none=>none
       |some aS=>
        match FM (d.1,([aS.1]:aw),()) with
        |none=>none
        |some bV=>
         bif d.2.1.1=4 then
          match nX (d.2.1.2.2.2.2.1,()) with
          |none=>none
          |some dE=>
           match wb (ah.1,([dE.1]:aw),()) with
           |none=>none
           |some gj=>
            match Mg (0,d.2.1,gj.1,bV.1,()) with
            |none=>none
            |some (.inl kX)=>
             some (kX.1,())
            |some (.inr kX)=>
             none
         else
          match Mg (0,d.2.1,ah.1,bV.1,()) with
          |none=>none
          |some (.inl z4)=>
           some (z4.1,())
          |some (.inr z4)=>
           none
def FL (d:ak×cD×Int×H):O ((ak×cD×Int×H)⊕((ak×H)⊕H)):=
 let t0:=(decide (d.2.2.1<((d.2.1.length):Int)))
 bif t0 then
  bif 0<=d.2.2.1&&d.2.2.1<(d.2.1.length:Int) then
   let t1:=(d.2.1.getD (d.2.2.1.toNat) (0,([],([],(([],([],())),([],([],(0,()))))))))
   match pi (d.1,t1,()) with
   |none=>none
   |some aS=>
    some (.inl (aS.1,d.2.1,(i64.wrap (d.2.2.1+1)),()))
  else none
 else
  some (.inr (.inl (d.1,())))
def aaS:=b8 FL
def O4 (d:ak×cD×H):O (ak×H):=
 match aaS (d.1,d.2.1,0,()) with
 |none=>none
 |some (.inl z0)=>
  some (z0.1,())
 |some (.inr z0)=>
  none
def xk (d:bi):O (Bool×H):=
 bif d.1>=d.2.1 then
  some ((decide (d.1<=d.2.2.1)),())
 else
  some (false,())
def tJ (d:aK×H):O (Bool×H):=
 match lK (d.1,()) with
 |none=>none
 |some aa=>
  bif !aa.1 then
   let t1:=(decide ((((d.1.1.length):Int):Int)<=65535))
   bif t1 then
    let t2:=(decide ((((d.1.2.1.length):Int):Int)<=65535))
    some (t2,())
   else
    some (false,())
  else
   some (false,())
def vV (d:Bool×bE×H):O (Bool×H):=
 bif d.1 then
  match xk (((d.2.1.2.2.2.2.1.length):Int),1,200,()) with
  |none=>none
  |some aa=>
   bif aa.1 then
    match xk (((d.2.1.2.2.2.2.2.1.length):Int),1,200,()) with
    |none=>none
    |some ah=>
     bif ah.1 then
      let t2:=(az.eqb am d.2.1 (d.2.1.1,([],([],(([],([],())),(d.2.1.2.2.2.2.1,(d.2.1.2.2.2.2.2.1,(0,()))))))))
      some (t2,())
     else
      some (false,())
   else
    some (false,())
 else
  some (false,())
def ox (d:Bool×Int×Bool×bE×H):O (Bool×H):=
 bif d.2.2.1 then
  match rF (d.2.2.2.1.2.2.2.2.1,d.2.2.2.1.2.2.2.2.2.1,()) with
  |none=>none
  |some aa=>
   bif !aa.1 then
    match rF (d.2.2.2.1.2.2.2.2.2.1,d.2.2.2.1.2.2.2.2.1,()) with
    |none=>none
    |some ah=>
     vV ((!ah.1),d.2.2.2.1,())
   else
    vV (false,d.2.2.2.1,())
 else
  bif d.2.1=6 then
   match tJ (d.2.2.2.1.2.2.2.1,()) with
   |none=>none
   |some aa=>
    bif aa.1 then
     bif d.1 then
      let t1:=(az.eqb am d.2.2.2.1 (d.2.2.2.1.1,([],([],(d.2.2.2.1.2.2.2.1,([],([],(d.2.2.2.1.2.2.2.2.2.2.1,()))))))))
      some (t1,())
     else
      some (false,())
    else
     some (false,())
  else
   some (false,())
def lb (d:bE×H):O (Bool×H):=
 match xk (((d.1.2.1.length):Int),1,65535,()) with
 |none=>none
 |some aa=>
  match xk (d.1.2.2.2.2.2.2.1,0,1000000000,()) with
  |none=>none
  |some ah=>
   bif d.1.1=1 then
    bif aa.1 then
     let t2:=(decide ((((d.1.2.2.1.length):Int):Int)<=64))
     bif t2 then
      bif ah.1 then
       let t3:=(az.eqb am d.1 (d.1.1,(d.1.2.1,(d.1.2.2.1,(([],([],())),([],([],(d.1.2.2.2.2.2.2.1,()))))))))
       some (t3,())
      else
       some (false,())
     else
      some (false,())
    else
     some (false,())
   else
    bif d.1.1=2 then
     bif aa.1 then
      let t2:=(az.eqb am d.1 (d.1.1,(d.1.2.1,([],(([],([],())),([],([],(0,()))))))))
      some (t2,())
     else
      some (false,())
    else
     bif d.1.1=3 then
      match tJ (d.1.2.2.2.1,()) with
      |none=>none
      |some aS=>
       bif aS.1 then
        let t3:=(az.eqb am d.1 (d.1.1,([],([],(d.1.2.2.2.1,([],([],(0,()))))))))
        some (t3,())
       else
        some (false,())
     else
      bif d.1.1=4 then
       ox (ah.1,d.1.1,true,d.1,())
      else
       ox (ah.1,d.1.1,(decide (d.1.1=5)),d.1,())
def JW (DV:fq->O (ak×H)) (d:Lr):O (Lr⊕((cz×ak×H)⊕H)):=
 let t0:=(decide (d.1<((d.2.2.1.2.2.1.length):Int)))
 bif t0 then
  bif 0<=d.1&&d.1<(d.2.2.1.2.2.1.length:Int) then
   let t1:=(d.2.2.1.2.2.1.getD (d.1.toNat) 0)
   match DV (d.2.1,t1,()) with
   |none=>none
   |some aS=>
    bif (d.2.2.2.1.length+aS.1.length)*40<=bC then
     some (.inl ((i64.wrap (d.1+1)),d.2.1,d.2.2.1,(d.2.2.2.1++aS.1),()))
    else none
  else none
 else
  some (.inr (.inl (d.2.2.1,d.2.2.2.1,())))
def WY (DV:fq->O (ak×H)) (d:Lr):O ((cz×ak×H)⊕H):=b8 (JW DV) d
def Dt (DV:fq->O (ak×H)) (d:fq):O (ak×H):=
 match xf (d.1,d.2.1,()) with
 |none=>none
 |some aa=>
  let t1:=(decide ((((aa.1.2.2.1.length):Int):Int)=0))
  bif t1 then
   some (aa.1.1,())
  else
   match WY DV (0,d.1,aa.1,[],()) with
   |none=>none
   |some (.inl z2)=>
    match O4 (z2.2.1,z2.1.2.2.2.2.1,()) with
    |none=>none
    |some bV=>
     some (bV.1,())
   |some (.inr z2)=>
    none
def Ds:Nat->fq->O (ak×H)
 |0,_=>none
 |n+1,d=>Dt (Ds n) d
def Zz (d:fq):O (ak×H):=Ds jl d
def acC (d:c1×H):O (ak×H):=
 match Zz (d.1.1,d.1.2.1,()) with
 |none=>none
 |some aa=>
  some (aa.1,())
def DF (d:cC×Int×Int×bF×cC×H):O ((cC×Int×Int×bF×cC×H)⊕(Ln⊕(bF×cC×H))):=
 bif d.2.2.1<d.2.1 then
  bif 0<=d.2.2.1&&d.2.2.1<(d.1.length:Int) then
   let t0:=(d.1.getD (d.2.2.1.toNat) 0)
   match oP (d.2.2.2.1,t0,()) with
   |none=>none
   |some ah=>
    bif !ah.1 then
     some (.inr (.inl (false,d.2.2.2.1,d.2.2.2.2.1,())))
    else
     bif 0<=t0&&t0<(d.2.2.2.2.1.length:Int) then
      let t2:=(d.2.2.2.2.1.getD (t0.toNat) 0)
      bif 0<=t0&&t0<(d.2.2.2.2.1.length:Int) then
       let t3:=(List.set d.2.2.2.2.1 (t0.toNat) (i64.wrap (t2+1)))
       some (.inl (d.1,d.2.1,(i64.wrap (d.2.2.1+1)),d.2.2.2.1,t3,()))
      else none
     else none
  else none
 else
  some (.inr (.inr (d.2.2.2.1,d.2.2.2.2.1,())))
def T2:=b8 DF
def ED (d:cC×bF×cC×H):O Ln:=
 match T2 (d.1,((d.1.length):Int),0,d.2.1,d.2.2.1,()) with
 |none=>none
 |some (.inl z0)=>
  some (z0.1,z0.2.1,z0.2.2.1,())
 |some (.inr z0)=>
  some (true,z0.1,z0.2.1,())
def NJ (d:lW):O (Int×H):=
 some ((i64.wrap (d.2.1+1)),())
def y9 (gH:qG->O (bF×Bool×cC×Int×H)) (d:K8):O (K8⊕(qG⊕H)):=
 bif d.2.2.2.1<d.2.2.1 then
  bif 0<=d.2.2.2.1&&d.2.2.2.1<(d.2.1.length:Int) then
   let t0:=(d.2.1.getD (d.2.2.2.1.toNat) 0)
   match gH (t0,d.2.2.2.2.1,d.2.2.2.2.2.1,d.2.2.2.2.2.2.1,d.2.2.2.2.2.2.2.1,()) with
   |none=>none
   |some ah=>
    let t2:=i64.wrap (d.2.2.2.1+1)
    some (.inl (d.1,d.2.1,d.2.2.1,t2,ah.1,ah.2.1,ah.2.2.1,ah.2.2.2.1,()))
  else none
 else
  some (.inr (.inl (d.1,d.2.2.2.2.1,d.2.2.2.2.2.1,d.2.2.2.2.2.2.1,d.2.2.2.2.2.2.2.1,())))
def J7 (gH:qG->O (bF×Bool×cC×Int×H)) (d:K8):O (qG⊕H):=b8 (y9 gH) d
def J6 (gH:qG->O (bF×Bool×cC×Int×H)) (d:Int×Bool×bF×Bool×cC×Int×H):O (bF×Bool×cC×Int×H):=
 bif d.2.1 then
  some (d.2.2.1,d.2.2.2.1,d.2.2.2.2.1,d.2.2.2.2.2.1,())
 else
  bif 0<=d.1&&d.1<(d.2.2.2.2.1.length:Int) then
   let t0:=(d.2.2.2.2.1.getD (d.1.toNat) 0)
   bif t0=1 then
    some (d.2.2.1,false,d.2.2.2.2.1,d.2.2.2.2.2.1,())
   else
    bif 0<=d.1&&d.1<(d.2.2.2.2.1.length:Int) then
     let t1:=(List.set d.2.2.2.2.1 (d.1.toNat) 1)
     bif 0<=d.1&&d.1<(d.2.2.1.1.length:Int) then
      let t2:=(d.2.2.1.1.getD (d.1.toNat) (false,(false,(0,(([],([],([],([],([],()))))),())))))
      match J7 gH (d.1,t2.2.2.2.1.2.2.1,((t2.2.2.2.1.2.2.1.length):Int),0,d.2.2.1,d.2.2.2.1,t1,d.2.2.2.2.2.1,()) with
      |none=>none
      |some (.inl z3)=>
       bif 0<=z3.1&&z3.1<(z3.2.2.2.1.length:Int) then
        let t4:=(List.set z3.2.2.2.1 (z3.1.toNat) 2)
        match NJ (z3.1,z3.2.2.2.2.1,()) with
        |none=>none
        |some gj=>
         some (z3.2.1,z3.2.2.1,t4,gj.1,())
       else none
      |some (.inr z3)=>
       none
     else none
    else none
  else none
def vN (gH:qG->O (bF×Bool×cC×Int×H)) (d:qG):O (bF×Bool×cC×Int×H):=
 match oP (d.2.1,d.1,()) with
 |none=>none
 |some aa=>
  bif (!(!aa.1)) then
   bif 0<=d.1&&d.1<(d.2.2.2.1.length:Int) then
    let t1:=(d.2.2.2.1.getD (d.1.toNat) 0)
    J6 gH (d.1,(decide (t1=2)),d.2.1,d.2.2.1,d.2.2.2.1,d.2.2.2.2.1,())
   else none
  else
   J6 gH (d.1,true,d.2.1,d.2.2.1,d.2.2.2.1,d.2.2.2.2.1,())
def sV:Nat->qG->O (bF×Bool×cC×Int×H)
 |0,_=>none
 |n+1,d=>vN (sV n) d
def NK (d:qG):O (bF×Bool×cC×Int×H):=sV jl d
def Eg (d:UP):O (UP⊕(At⊕H)):=
 bif d.2.2.1<d.2.1 then
  bif 0<=d.2.2.1&&d.2.2.1<(d.1.length:Int) then
   let t0:=(d.1.getD (d.2.2.1.toNat) 0)
   match NK (t0,d.2.2.2.2.2.1,d.2.2.2.2.1,d.2.2.2.2.2.2.1,d.2.2.2.1,()) with
   |none=>none
   |some ah=>
    some (.inl (d.1,d.2.1,(i64.wrap (d.2.2.1+1)),ah.2.2.2.1,ah.2.1,ah.1,ah.2.2.1,()))
  else none
 else
  some (.inr (.inl (d.2.2.2.1,d.2.2.2.2.1,())))
def KH:=b8 Eg
def Gq (d:bF×cC×Int×H):O (Bool×Int×H):=
 bif (0<=((d.1.1.length):Int)&&(((d.1.1.length):Int):Int)<=((d.1.1.length):Int)&&((d.1.1.length):Int)*8<=(bC:Int)) then
  match KH (d.2.1,((d.2.1.length):Int),(0:Int),d.2.2.1,true,d.1,(List.replicate (Int.toNat ((d.1.1.length):Int)) (0:Int)),()) with
  |none=>none
  |some (.inl z0)=>
   some (z0.2.1,z0.1,())
  |some (.inr z0)=>
   none
 else none
def Gp (d:iZ×H):O (Bool×H):=
 bif !d.1.1 then
  bif !d.1.2.1 then
   bif d.1.2.2.1=0 then
    let t0:=(i64.wrap (((d.1.2.2.2.1.1.length):Int)+((d.1.2.2.2.1.2.1.length):Int)))
    let t1:=(i64.wrap (t0+((d.1.2.2.2.1.2.2.1.length):Int)))
    let t2:Int:=((d.1.2.2.2.1.2.2.2.1.length):Int)
    let t3:Int:=((d.1.2.2.2.1.2.2.2.2.1.length):Int)
    let t4:=(i64.wrap ((i64.wrap (t1+t2))+t3))
    some ((decide (t4=0)),())
   else
    some (false,())
  else
   some (false,())
 else
  some (false,())
def zo (d:cb×Int×Int×bF×cC×H):O ((cb×Int×Int×bF×cC×H)⊕((Bool×H)⊕(bF×cC×H))):=
 bif d.2.2.1<d.2.1 then
  bif 0<=d.2.2.1&&d.2.2.1<(d.1.length:Int) then
   let t0:=(d.1.getD (d.2.2.1.toNat) (false,(false,(0,(([],([],([],([],([],()))))),())))))
   bif t0.1 then
    match ED (t0.2.2.2.1.2.2.1,d.2.2.2.1,d.2.2.2.2.1,()) with
    |none=>none
    |some ah=>
     bif (!(!ah.1)) then
      bif !t0.1 then
       match Gp (t0,()) with
       |none=>none
       |some aS=>
        bif !aS.1 then
         some (.inr (.inl (false,())))
        else
         some (.inl (d.1,d.2.1,(i64.wrap (d.2.2.1+1)),ah.2.1,ah.2.2.1,()))
      else
       some (.inl (d.1,d.2.1,(i64.wrap (d.2.2.1+1)),ah.2.1,ah.2.2.1,()))
     else
      some (.inr (.inl (false,())))
   else
    bif !t0.1 then
     match Gp (t0,()) with
     |none=>none
     |some ah=>
      bif !ah.1 then
       some (.inr (.inl (false,())))
      else
       some (.inl (d.1,d.2.1,(i64.wrap (d.2.2.1+1)),d.2.2.2.1,d.2.2.2.2.1,()))
    else
     some (.inl (d.1,d.2.1,(i64.wrap (d.2.2.1+1)),d.2.2.2.1,d.2.2.2.2.1,()))
  else none
 else
  some (.inr (.inr (d.2.2.2.1,d.2.2.2.2.1,())))
def MY:=b8 zo
def Ef (d:cb×Int×Int×cC×H):O ((cb×Int×Int×cC×H)⊕((Bool×H)⊕H)):=
 bif d.2.2.1<d.2.1 then
  bif 0<=d.2.2.1&&d.2.2.1<(d.1.length:Int) then
   let t0:=(d.1.getD (d.2.2.1.toNat) (false,(false,(0,(([],([],([],([],([],()))))),())))))
   bif 0<=d.2.2.1&&d.2.2.1<(d.2.2.2.1.length:Int) then
    let t1:=(d.2.2.2.1.getD (d.2.2.1.toNat) 0)
    bif (!(t0.2.2.1=t1)) then
     some (.inr (.inl (false,())))
    else
     some (.inl (d.1,d.2.1,(i64.wrap (d.2.2.1+1)),d.2.2.2.1,()))
   else none
  else none
 else
  some (.inr (.inr (())))
def MZ:=b8 Ef
def MX (d:Ln):O (Bool×H):=
 bif d.1 then
  some (false,())
 else
  match MY (d.2.1.1,((d.2.1.1.length):Int),0,d.2.1,d.2.2.1,()) with
  |none=>none
  |some (.inl z0)=>
   some (z0.1,())
  |some (.inr z0)=>
   match MZ (z0.1.1,((z0.1.1.length):Int),0,z0.2.1,()) with
   |none=>none
   |some (.inl aF)=>
    some (aF.1,())
   |some (.inr aF)=>
    some (true,())
def wC (d:bF×cC×H):O (Bool×H):=
 bif (0<=((d.1.1.length):Int)&&(((d.1.1.length):Int):Int)<=((d.1.1.length):Int)&&((d.1.1.length):Int)*8<=(bC:Int)) then
  match ED (d.2.1,d.1,(List.replicate (Int.toNat ((d.1.1.length):Int)) (0:Int)),()) with
  |none=>none
  |some aa=>
   bif !aa.1 then
    some (false,())
   else
    match Gq (aa.2.1,d.2.1,0,()) with
    |none=>none
    |some ah=>
     bif (!(!ah.1)) then
      match GC (aa.2.1,()) with
      |none=>none
      |some aS=>
       MX ((!decide (ah.2.1=aS.1)),aa.2.1,aa.2.2.1,())
     else
      MX (true,aa.2.1,aa.2.2.1,())
 else none
def Du (d:UJ):O (UJ⊕((Bool×H)⊕(Bool×bE×ak×cD×c1×H))):=
 let t0:=(decide (d.2.1<((d.2.2.2.2.1.length):Int)))
 bif t0 then
  bif 0<=d.2.1&&d.2.1<(d.2.2.2.2.1.length:Int) then
   let t1:=(d.2.2.2.2.1.getD (d.2.1.toNat) (0,([],([],(([],([],())),([],([],(0,()))))))))
   match nf (d.2.2.2.2.2.1,t1,()) with
   |none=>none
   |some aS=>
    bif (!(aS.2.1=0)) then
     some (.inr (.inl (false,())))
    else
     some (.inl (d.1,(i64.wrap (d.2.1+1)),d.2.2.1,d.2.2.2.1,d.2.2.2.2.1,aS.1,()))
  else none
 else
  some (.inr (.inr (d.1,d.2.2.1,d.2.2.2.1,d.2.2.2.2.1,d.2.2.2.2.2.1,())))
def Tx:=b8 Du
def zd (d:fh×(List pM)×bE×H):O (Bool×H):=
 match Ny (()) with
 |none=>none
 |some aa=>
  match Gt (d.1,()) with
  |none=>none
  |some ah=>
   match kQ (ah.1,([],([],())),()) with
   |none=>none
   |some aS=>
    bif (!(aS.1=0)) then
     some (false,())
    else
     match zM (d.2.1,8,()) with
     |none=>none
     |some bV=>
      match Tx (aa.1,0,d.2.2.1,aS.2.1,bV.1,ah.1,()) with
      |none=>none
      |some (.inl z4)=>
       some (z4.1,())
      |some (.inr z4)=>
       match kQ (z4.2.2.2.2.1,([],([],())),()) with
       |none=>none
       |some gj=>
        match nf (z4.2.2.2.2.1,z4.2.1,()) with
        |none=>none
        |some iS=>
         bif z4.1 then
          bif gj.1=0 then
           match zR (z4.2.2.2.2.1,()) with
           |none=>none
           |some S5=>
            bif S5.1 then
             match wC (z4.2.2.2.2.1.1,([z4.2.2.2.2.1.2.1]:cC),()) with
             |none=>none
             |some DK=>
              bif DK.1 then
               match uQ (z4.2.2.1,z4.2.2.2.1,()) with
               |none=>none
               |some DL=>
                match zL (gj.2.1,DL.1,()) with
                |none=>none
                |some DJ=>
                 bif DJ.1 then
                  match lb (z4.2.1,()) with
                  |none=>none
                  |some ax0=>
                   let t12:Bool:=((decide (iS.2.1=50))==(!ax0.1))
                   some (t12,())
                 else
                  some (false,())
              else
               some (false,())
            else
             some (false,())
          else
           some (false,())
         else
          some (false,())
end D
