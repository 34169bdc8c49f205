import Derived.Test.YtmmmpanpbphkdaaGreatDoorXD
set_option linter.unusedVariables false
open Go Go.X
open Go.IntKind (i64)
namespace D
abbrev bG (p:Prop) [Decidable p]:Prop:=decide p=true
abbrev aAz (p:Prop) [Decidable p]:Prop:=decide p=false
abbrev N:=List UInt8
abbrev H:=Unit
abbrev O (α:Type):=Option α
abbrev bo:=List N
abbrev cC:=List Int
abbrev dB:=List Nat
abbrev lW:Type:=Int×Int×H
abbrev iL:Type:=N×Int×H
abbrev bi:Type:=Int×Int×Int×H
abbrev l6:=List bi
abbrev tV:Type:=lW×H
abbrev aK:Type:=N×N×H
abbrev aw:=List aK
abbrev cp:Type:=N×N×Int×H
abbrev ak:=List cp
abbrev j5:Type:=N×Int×Int×N×H
abbrev eV:Type:=lW×lW×H
abbrev hz:=List eV
abbrev qp:Type:=cp×Bool×Int×Int×H
abbrev Kc:Type:=Bool×Bool×cp×N×Bool×Int×H
abbrev bE:Type:=Int×N×N×aK×N×N×Int×H
abbrev cD:=List bE
abbrev cz:Type:=ak×bo×cC×hz×cD×H
abbrev cS:=List cz
abbrev fh:Type:=l6×((List (Int×Int×Int×Int×Int×Int×H))×(List (Int×Int×Int×Int×Int×Int×H))×(List (Int×Int×Int×Int×Int×Int×H))×(List (Int×Int×Int×Int×Int×Int×H))×H)×Int×H
abbrev iZ:Type:=Bool×Bool×Int×cz×H
abbrev cb:=List iZ
abbrev bF:Type:=cb×H
abbrev fq:Type:=bF×Int×H
abbrev qh:Type:=bF×Int×Int×H
abbrev c1:Type:=bF×Int×bi×H
@[reducible] def ja:az:=(.pair (.int .i64) (.pair (.int .i64) .unit))
@[reducible] def Gl:az:=(.pair (.int .i64) ja)
@[reducible] def ab1:az:=(.pair ja .unit)
@[reducible] def ac:az:=(.pair .str (.pair .str .unit))
@[reducible] def bz:az:=(.pair .str (.pair .str (.pair (.int .i64) .unit)))
@[reducible] def hG:az:=(.pair .str (.pair (.int .i64) (.pair (.int .i64) (.pair .str .unit))))
@[reducible] def eL:az:=(.pair ja ab1)
@[reducible] def aqF:az:=(.pair .str (.pair .bool (.pair .bool (.pair .str (.pair .bool (.pair (.int .i64) .unit))))))
@[reducible] def as1:az:=(.pair bz (.pair .bool ja))
@[reducible] def JY:az:=(.pair (.pair .str .unit) (.pair hG .unit))
@[reducible] def j3:az:=(.pair .bool (.pair .bool (.pair bz (.pair .str (.pair .bool (.pair (.int .i64) .unit))))))
@[reducible] def am:az:=(.pair (.int .i64) (.pair .str (.pair .str (.pair ac bz))))
@[reducible] def ey:az:=(.pair (.list bz) (.pair (.list .str) (.pair (.list (.int .i64)) (.pair (.list eL) (.pair (.list am) .unit)))))
@[reducible] def mY:az:=(.pair (.list (.pair (.int .u8) (.pair (.int .u8) (.pair (.int .u8) .unit)))) (.pair (.pair (.list (.pair (.int .u8) (.pair (.int .u8) (.pair (.int .u8) (.pair (.int .u8) (.pair (.int .u8) (.pair (.int .u8) .unit))))))) (.pair (.list (.pair (.int .u8) (.pair (.int .u8) (.pair (.int .u8) (.pair (.int .u8) (.pair (.int .u8) (.pair (.int .u8) .unit))))))) (.pair (.list (.pair (.int .u8) (.pair (.int .u8) (.pair (.int .u8) (.pair (.int .u8) (.pair (.int .u8) (.pair (.int .u8) .unit))))))) (.pair (.list (.pair (.int .u8) (.pair (.int .u8) (.pair (.int .u8) (.pair (.int .u8) (.pair (.int .u8) (.pair (.int .u8) .unit))))))) .unit)))) (.pair (.int .u8) .unit)))
@[reducible] def iC:az:=(.pair .bool (.pair .bool (.pair (.int .i64) (.pair ey .unit))))
@[reducible] def dm:az:=(.pair (.list iC) .unit)
@[reducible] def fO:az:=(.pair dm (.pair (.int .i64) .unit))
@[reducible] def kF:az:=(.pair dm ja)
@[reducible] def jn:az:=(.pair dm (.pair (.int .i64) (.pair Gl .unit)))
abbrev Ul:Type:=N×N×N×(Int×Int×Int×Int×Int×Int×H)×Int×N×N×N×N×N×N×Int×aK×H
abbrev Um:Type:=Int×Int×cD×Bool×Bool×N×N×Int×N×Bool×Int×Bool×Bool×N×N×Int×N×Bool×Int×H
abbrev La:Type:=ak×(List bo)×Int×bF×aK×fh×cb×Int×ak×cD×aw×bo×cC×hz×H
abbrev Fh:Type:=Int×cD×Bool×Bool×N×N×Int×N×Bool×Int×Bool×Bool×N×N×Int×N×Bool×Int×H
abbrev Lb:Type:=Bool×Int×Bool×Bool×N×N×Int×N×Bool×Int×Bool×Bool×N×N×Int×N×Bool×Int×H
abbrev Fi:Type:=ak×(List bo)×Int×bF×aK×fh×cb×Int×bo×H
abbrev Lc:Type:=Int×cb×Int×ak×qh×bF×bo×cC×hz×cD×H
abbrev Un:Type:=aw×Int×Int×aw×Int×Int×aw×aK×aw×H
abbrev Fj:Type:=ak×(List bo)×bF×aK×fh×cb×Int×bo×H
abbrev RK:Type:=Int×Int×Bool×Int×Int×aK×aw×bF×Int×ak×ak×H
abbrev Ld:Type:=ak×aw×Int×Int×bF×Int×cz×aK×aw×H
abbrev Le:Type:=ak×Int×Int×bF×Int×cz×aw×aw×ak×H
abbrev Uo:Type:=hz×Int×Int×cz×Int×Int×Int×Int×Int×Int×Int×Int×H
abbrev uv:Type:=Int×Int×Int×Int×aK×aw×bF×Int×ak×ak×H
abbrev Up:Type:=N×Int×List Kc×c1×N×N×Int×Bool×Int×H
abbrev wZ:Type:=bE×Bool×Bool×N×N×Int×N×Bool×Int×H
abbrev Uq:Type:=N×bo×Int×Int×aK×aw×H
abbrev Lf:Type:=(List (Int×Int×Int×Int×Int×Int×H))×Int×Int×cD×H
abbrev Ak:Type:=cD×Int×Int×Int×Int×Int×Int×Int×Int×Int×Int×H
abbrev Ur:Type:=N×bo×Int×Int×cz×aK×H
abbrev Us:Type:=bo×N×Int×aK×aw×H
abbrev Ut:Type:=Int×Int×Int×Bool×Bool×Int×Int×Bool×aw×H
abbrev Uu:Type:=Int×Int×Int×aw×bE×aK×aw×H
abbrev Uv:Type:=Int×Bool×N×N×Int×Int×N×H
abbrev mP:Type:=bF×ak×aK×(List bo)×fh×H
abbrev Uk:Type:=Int×Int×Int×Bool×Bool×Int×Int×aw×H
abbrev K7:Type:=aw×Int×Int×aw×aw×H
abbrev mQ:Type:=Int×Int×aK×aw×bF×Int×ak×H
abbrev K8:Type:=Int×cC×Int×Int×bF×Bool×cC×Int×H
abbrev K9:Type:=N×Int×N×Int×Int×N×H
abbrev UK:Type:=N×aw×Int×Int×aw×H
abbrev UL:Type:=(List ak)×Int×(List ak)×Int×Int×H
abbrev FA:Type:=Int×Int×Int×Int×bF×cz×aw×H
abbrev UM:Type:=Int×Int×cz×cb×Int×Int×cb×H
abbrev UN:Type:=N×N×Int×bo×H
abbrev UO:Type:=bo×N×Int×Int×Int×H
abbrev UP:Type:=cC×Int×Int×Int×Bool×bF×cC×H
abbrev FB:Type:=Int×cz×Int×Int×Int×Int×eV×H
abbrev Ap:Type:=N×N×Int×Int×N×H
abbrev Aq:Type:=N×N×N×cC×H
abbrev FC:Type:=Bool×j5×N×Int×Int×N×H
abbrev UR:Type:=cC×Int×Int×bF×cz×cb×H
abbrev US:Type:=Int×cC×Int×Int×cb×cb×H
abbrev nr:Type:=cz×aK×aw×bF×Int×H
abbrev UT:Type:=N×N×Int×Int×ak×H
abbrev qH:Type:=Int×Int×Int×Bool×Bool×aw×H
abbrev UU:Type:=Int×Int×Int×Int×Bool×aw×H
abbrev w4:Type:=Int×Int×Int×Int×Int×aw×H
abbrev Lu:Type:=Int×Int×Int×Int×aw×Int×H
abbrev UW:Type:=ak×Int×Int×Int×Int×Int×Int×H
abbrev UX:Type:=ak×Bool×Int×Bool×cp×ak×H
abbrev Lv:Type:=N×Int×N×N×H
abbrev UY:Type:=cC×Int×Int×cz×aK×H
abbrev An:Type:=Int×bF×cz×cb×Int×Int×H
abbrev Fv:Type:=Int×Int×aw×aw×H
abbrev Lo:Type:=Int×Int×aK×cD×cD×H
abbrev UJ:Type:=Bool×Int×bE×ak×cD×c1×H
abbrev Fw:Type:=ak×aw×Int×ak×H
abbrev l7:Type:=Int×Int×Int×Int×aw×H
abbrev Fx:Type:=Int×Int×aw×aK×H
abbrev pL:Type:=ak×Bool×Int×cp×ak×H
abbrev Fy:Type:=Int×Int×ak×aw×H
abbrev pM:Type:=Int×Int×Int×Int×Int×Int×H
abbrev qG:Type:=Int×bF×Bool×cC×Int×H
abbrev Lp:Type:=Int×List Kc×cp×Bool×Int×H
abbrev eZ:Type:=Int×Int×Int×aw×H
abbrev Ao:Type:=N×N×Bool×H
abbrev Lq:Type:=aw×aw×H
abbrev Fz:Type:=Int×cD×aw×H
abbrev Lr:Type:=Int×bF×cz×ak×H
abbrev sa:Type:=ak×ak×ak×H
abbrev l8:Type:=Int×Int×aw×H
abbrev Ls:Type:=Int×aw×Int×H
abbrev sb:Type:=bF×Int×aK×Int×H
abbrev sc:Type:=aw×aK×H
abbrev Lt:Type:=l6×Int×ak×H
abbrev w1:Type:=ak×aw×H
abbrev Lk:Type:=N×Int×Bool×H
abbrev Ll:Type:=N×Int×Int×H
abbrev Lm:Type:=aK×N×H
abbrev Fu:Type:=ak×N×H
abbrev Ln:Type:=Bool×bF×cC×H
abbrev uz:Type:=aK×aK×H
abbrev Ar:Type:=cz×aK×H
abbrev w5:Type:=ak×aK×H
abbrev As:Type:=ak×ak×H
abbrev w6:Type:=N×Bool×H
abbrev w7:Type:=bE×ak×H
abbrev At:Type:=Int×Bool×H
def qn (d:aK):O (Bool×H):=
 let t0:=(!decide ((d.1:N)=[]))
 bif t0 then
  let t1:=decide ((d.2.1:N)=[])
  bif !t1 then
   some ((Op.bytesLess d.1 d.2.1),())
  else
   some (true,())
 else
  some (false,())
def lK (d:aK×H):O (Bool×H):=
 let t0:=(!decide ((d.1.2.1:N)=[]))
 bif t0 then
  let t1:=(Op.bytesLess d.1.2.1 d.1.1||decide ((d.1.2.1:N)=d.1.1))
  some (t1,())
 else
  some (false,())
def Ou (d:H):O (aK×H):=
 some ((([97]:N),(([97]:N),())),())
def KI (d:N×N×N×N×H):O (aK×H):=
 match lK ((d.2.2.1,(d.2.2.2.1,())),()) with
 |none=>none
 |some aa=>
  bif aa.1 then
   match Ou (()) with
   |none=>none
   |some ah=>
    some (ah.1,())
  else
   some ((d.2.2.1,(d.2.2.2.1,())),())
def AL (d:uz):O (aK×H):=
 let t0:N:=(bif !(Op.bytesLess d.1.1 d.2.1.1) then d.1.1 else d.2.1.1)
 match qn (d.2.1.2.1,d.1.2.1,()) with
 |none=>none
 |some ah=>
  bif ah.1 then
   KI ([],[],t0,d.2.1.2.1,())
  else
   KI ([],[],t0,d.1.2.1,())
def DR (d:Us):O (Us⊕((N×aK×aw×H)⊕H)):=
 let t0:=(decide (d.2.2.1<((d.1.length):Int)))
 bif t0 then
  bif 0<=d.2.2.1&&d.2.2.1<(d.1.length:Int) then
   let t1:=(d.1.getD (d.2.2.1.toNat) [])
   match AL (d.2.2.2.1,(d.2.1,(t1,())),()) with
   |none=>none
   |some aS=>
    bif ((d.2.2.2.2.1.length+List.length ([aS.1]:aw))*32<=bC) then
     let t3:aw:=(d.2.2.2.2.1++([aS.1]:aw))
     bif 0<=d.2.2.1&&d.2.2.1<(d.1.length:Int) then
      let t4:=(d.1.getD (d.2.2.1.toNat) [])
      some (.inl (d.1,t4,(i64.wrap (d.2.2.1+1)),d.2.2.2.1,t3,()))
     else none
    else none
  else none
 else
  some (.inr (.inl (d.2.1,d.2.2.2.1,d.2.2.2.2.1,())))
def Me:=b8 DR
def zH (d:aK×bo×H):O (aw×H):=
 match Me (d.2.1,[],0,d.1,[],()) with
 |none=>none
 |some (.inl z0)=>
  match AL (z0.2.1,(z0.1,([],())),()) with
  |none=>none
  |some ah=>
   bif ((z0.2.2.1.length+List.length ([ah.1]:aw))*32<=bC) then
    let t2:aw:=(z0.2.2.1++([ah.1]:aw))
    some (t2,())
   else none
 |some (.inr z0)=>
  none
def EN (d:Ar):O (aw×H):=
 let t0:=(decide ((((d.1.2.2.1.length):Int):Int)=0))
 bif t0 then
  some ([],())
 else
  match zH (d.2.1,d.1.2.1,()) with
  |none=>none
  |some ah=>
   some (ah.1,())
def A1 (d:Lm):O (Bool×H):=
 bif (!(Op.bytesLess d.2.1 d.1.1)) then
  let t0:=decide ((d.1.2.1:N)=[])
  bif !t0 then
   some ((Op.bytesLess d.2.1 d.1.2.1),())
  else
   some (true,())
 else
  some (false,())
def DS (d:ak×Int×aK×ak×H):O ((ak×Int×aK×ak×H)⊕((ak×H)⊕H)):=
 let t0:=(decide (d.2.1<((d.1.length):Int)))
 bif t0 then
  bif 0<=d.2.1&&d.2.1<(d.1.length:Int) then
   let t1:=(d.1.getD (d.2.1.toNat) ([],([],(0,()))))
   match A1 (d.2.2.1,t1.1,()) with
   |none=>none
   |some aS=>
    bif aS.1 then
     bif 0<=d.2.1&&d.2.1<(d.1.length:Int) then
      let t3:=(d.1.getD (d.2.1.toNat) ([],([],(0,()))))
      bif ((d.2.2.2.1.length+List.length ([t3]:ak))*40<=bC) then
       let t4:ak:=(d.2.2.2.1++([t3]:ak))
       some (.inl (d.1,(i64.wrap (d.2.1+1)),d.2.2.1,t4,()))
      else none
     else none
    else
     some (.inl (d.1,(i64.wrap (d.2.1+1)),d.2.2.1,d.2.2.2.1,()))
  else none
 else
  some (.inr (.inl (d.2.2.2.1,())))
def Mf:=b8 DS
def F5 (d:w5):O (ak×H):=
 match Mf (d.1,0,d.2.1,[],()) with
 |none=>none
 |some (.inl z0)=>
  some (z0.1,())
 |some (.inr z0)=>
  none
def zP (d:fq):O (Bool×H):=
 bif d.2.1>=0 then
  let t0:=(decide (d.2.1<((d.1.1.length):Int)))
  bif t0 then
   bif 0<=d.2.1&&d.2.1<(d.1.1.length:Int) then
    let t1:=(d.1.1.getD (d.2.1.toNat) (false,(false,(0,(([],([],([],([],([],()))))),())))))
    some (t1.1,())
   else none
  else
   some (false,())
 else
  some (false,())
def Ey (d:bF×H):O bF:=
 bif ((List.length ([]:cb)+d.1.1.length)*136<=bC) then
  let t0:cb:=([]++d.1.1)
  some (t0,())
 else none
def Ev (d:An):O (An⊕(qh⊕(bF×cz×cb×Int×Int×H))):=
 let t0:=(decide (d.1<((d.2.2.1.2.2.1.length):Int)))
 bif t0 then
  bif 0<=d.1&&d.1<(d.2.2.1.2.2.1.length:Int) then
   let t1:=(d.2.2.1.2.2.1.getD (d.1.toNat) 0)
   match zP (d.2.1,t1,()) with
   |none=>none
   |some aS=>
    bif !aS.1 then
     some (.inr (.inl (d.2.1,0,110,())))
    else
     some (.inl ((i64.wrap (d.1+1)),d.2.1,d.2.2.1,d.2.2.2.1,d.2.2.2.2.1,d.2.2.2.2.2.1,()))
  else none
 else
  some (.inr (.inr (d.2.1,d.2.2.1,d.2.2.2.1,d.2.2.2.2.1,d.2.2.2.2.2.1,())))
def NO:=b8 Ev
def Ew (d:An):O (An⊕(An⊕H)):=
 let t0:=(decide (d.1<((d.2.1.1.length):Int)))
 bif t0 then
  bif 0<=d.1&&d.1<(d.2.1.1.length:Int) then
   let t1:=(d.2.1.1.getD (d.1.toNat) (false,(false,(0,(([],([],([],([],([],()))))),())))))
   bif t1.1 then
    some (.inl ((i64.wrap (d.1+1)),d.2.1,d.2.2.1,d.2.2.2.1,d.2.2.2.2.1,d.2.2.2.2.2.1,()))
   else
    some (.inr (.inl (d.1,d.2.1,d.2.2.1,d.2.2.2.1,d.2.2.2.2.1,d.2.2.2.2.2.1,())))
  else none
 else
  some (.inr (.inl (d.1,d.2.1,d.2.2.1,d.2.2.2.1,d.2.2.2.2.1,d.2.2.2.2.2.1,())))
def NP:=b8 Ew
def Ex (d:UM):O (UM⊕((Int×cb×Int×Int×cb×H)⊕H)):=
 let t0:=(decide (d.2.1<((d.2.2.1.2.2.1.length):Int)))
 bif t0 then
  bif 0<=d.2.1&&d.2.1<(d.2.2.1.2.2.1.length:Int) then
   let t1:=(d.2.2.1.2.2.1.getD (d.2.1.toNat) 0)
   bif 0<=t1&&t1<(d.2.2.2.2.2.2.1.length:Int) then
    let t2:=(d.2.2.2.2.2.2.1.getD (t1.toNat) (false,(false,(0,(([],([],([],([],([],()))))),())))))
    let t3:=i64.wrap (t2.2.2.1+1)
    bif 0<=t1&&t1<(d.2.2.2.2.2.2.1.length:Int) then
     let t4:=(List.set d.2.2.2.2.2.2.1 (t1.toNat) ((d.2.2.2.2.2.2.1.getD (t1.toNat) (false,(false,(0,(([],([],([],([],([],()))))),()))))).1,((d.2.2.2.2.2.2.1.getD (t1.toNat) (false,(false,(0,(([],([],([],([],([],()))))),()))))).2.1,(t3,(d.2.2.2.2.2.2.1.getD (t1.toNat) (false,(false,(0,(([],([],([],([],([],()))))),()))))).2.2.2))))
     some (.inl (d.1,(i64.wrap (d.2.1+1)),d.2.2.1,d.2.2.2.1,d.2.2.2.2.1,d.2.2.2.2.2.1,t4,()))
    else none
   else none
  else none
 else
  some (.inr (.inl (d.1,d.2.2.2.1,d.2.2.2.2.1,d.2.2.2.2.2.1,d.2.2.2.2.2.2.1,())))
def NQ:=b8 Ex
def NN (d:Int×cz×cb×Int×Int×cb×H):O (qh×H):=
 bif 0<=d.1&&d.1<(d.2.2.2.2.2.1.length:Int) then
  let t0:=(List.set d.2.2.2.2.2.1 (d.1.toNat) (true,(false,(1,(d.2.1,())))))
  match NQ (d.1,0,d.2.1,d.2.2.1,d.2.2.2.1,d.2.2.2.2.1,t0,()) with
  |none=>none
  |some (.inl aF)=>
   some (((aF.2.2.2.2.1,()),(aF.1,(0,()))),())
  |some (.inr aF)=>
   none
 else none
def tX (d:bF×cz×H):O (qh×H):=
 match NO (0,d.1,d.2.1,[],0,0,()) with
 |none=>none
 |some (.inl z0)=>
  some ((z0.1,(z0.2.1,(z0.2.2.1,()))),())
 |some (.inr z0)=>
  match NP (0,z0.1,z0.2.1,z0.2.2.1,z0.2.2.2.1,z0.2.2.2.2.1,()) with
  |none=>none
  |some (.inl aF)=>
   bif aF.1>=4096 then
    some ((aF.2.1,(0,(111,()))),())
   else
    match Ey (aF.2.1,()) with
    |none=>none
    |some aS=>
     let t3:=(decide (aF.1=((aS.1.length):Int)))
     bif t3 then
      bif ((aS.1.length+List.length ([(false,(false,(0,(([],([],([],([],([],()))))),()))))]:cb))*136<=bC) then
       let t4:cb:=(aS.1++([(false,(false,(0,(([],([],([],([],([],()))))),()))))]:cb))
       NN (aF.1,aF.2.2.1,aF.2.2.2.1,aF.2.2.2.2.1,aF.2.2.2.2.2.1,t4,())
      else none
     else
      NN (aF.1,aF.2.2.1,aF.2.2.2.1,aF.2.2.2.2.1,aF.2.2.2.2.2.1,aS.1,())
  |some (.inr aF)=>
   none
def AN (d:eV×eV×H):O (eV×H):=
 let t0:Int:=(if ((i64.wrap (d.1.1.1+d.2.1.1.1)):Int)<1000000000000000 then (i64.wrap (d.1.1.1+d.2.1.1.1)) else 1000000000000000)
 let t1:=i64.wrap (d.1.1.2.1+d.2.1.1.2.1)
 let t2:Int:=(if (t1:Int)<1000000000000000 then t1 else 1000000000000000)
 let t3:=i64.wrap (d.1.2.1.1+d.2.1.2.1.1)
 let t4:Int:=(if (t3:Int)<1000000000000000 then t3 else 1000000000000000)
 let t5:=i64.wrap (d.1.2.1.2.1+d.2.1.2.1.2.1)
 let t6:Int:=(if (t5:Int)<1000000000000000 then t5 else 1000000000000000)
 some (((t0,(t2,())),((t4,(t6,())),())),())
def Mc (d:N×Int×Bool×N×Int×Int×N×N×Int×Int×N×H):O (j5×H):=
 bif d.2.2.1 then
  bif (1:Int)<=d.2.1&&d.2.1<=(d.1.length:Int) then
   let t0:=(List.drop (Int.toNat 1) (List.take (d.2.1.toNat) d.1))
   some ((t0,(4,(d.2.2.2.2.2.2.2.2.2.1,(d.2.2.2.2.2.2.2.2.2.2.1,())))),())
  else none
 else
  some ((d.2.2.2.2.2.2.2.1,(d.2.2.2.2.2.2.2.2.1,(d.2.2.2.2.2.2.2.2.2.1,(d.2.2.2.2.2.2.2.2.2.2.1,())))),())
def YU (d:N×Int×N×Int×Int×N×N×Int×Int×N×H):O (j5×H):=
 let t0:=decide (d.2.2.2.2.2.2.2.1=1)
 bif t0 then
  bif d.2.1>0 then
   bif (0:Int)<(d.1.length:Int) then
    let t1:=(decide ((((d.1.getD 0 0).toNat:Int):Int)=6))
    Mc (d.1,d.2.1,t1,d.2.2.1,d.2.2.2.1,d.2.2.2.2.1,d.2.2.2.2.2.1,d.2.2.2.2.2.2.1,d.2.2.2.2.2.2.2.1,d.2.2.2.2.2.2.2.2.1,d.2.2.2.2.2.2.2.2.2.1,())
   else none
  else
   Mc (d.1,d.2.1,false,d.2.2.1,d.2.2.2.1,d.2.2.2.2.1,d.2.2.2.2.2.1,d.2.2.2.2.2.2.1,d.2.2.2.2.2.2.2.1,d.2.2.2.2.2.2.2.2.1,d.2.2.2.2.2.2.2.2.2.1,())
 else
  Mc (d.1,d.2.1,false,d.2.2.1,d.2.2.2.1,d.2.2.2.2.1,d.2.2.2.2.2.1,d.2.2.2.2.2.2.1,d.2.2.2.2.2.2.2.1,d.2.2.2.2.2.2.2.2.1,d.2.2.2.2.2.2.2.2.2.1,())
def YT (d:N×Int×N×N×Int×Int×N×N×Int×Int×N×H):O (j5×H):=
 let t0:=decide (d.2.2.2.2.2.2.2.2.1=3)
 bif t0 then
  YU (d.1,d.2.1,d.2.2.2.1,d.2.2.2.2.1,d.2.2.2.2.2.1,d.2.2.2.2.2.2.1,d.2.2.2.2.2.2.2.1,d.2.2.2.2.2.2.2.2.1,d.2.2.2.2.2.2.2.2.2.1,d.2.2.1,())
 else
  YU (d.1,d.2.1,d.2.2.2.1,d.2.2.2.2.1,d.2.2.2.2.2.1,d.2.2.2.2.2.2.1,d.2.2.2.2.2.2.2.1,d.2.2.2.2.2.2.2.2.1,d.2.2.2.2.2.2.2.2.2.1,d.2.2.2.2.2.2.2.2.2.2.1,())
def YV (d:N×Int×N×Bool×N×Int×Int×N×N×Int×Int×N×H):O (j5×H):=
 bif d.2.2.2.1 then
  bif (0:Int)<(d.2.2.1.length:Int) then
   let t0:=i64.wrap ((d.2.2.1.getD 0 0).toNat:Int)
   bif (1:Int)<(d.2.2.1.length:Int) then
    let t1:Int:=((d.2.2.1.getD (Int.toNat 1) 0).toNat:Int)
    let t2:=(i64.wrap ((i64.wrap (256*t0))+(i64.wrap t1)))
    YT (d.1,d.2.1,d.2.2.1,d.2.2.2.2.1,d.2.2.2.2.2.1,d.2.2.2.2.2.2.1,d.2.2.2.2.2.2.2.1,d.2.2.2.2.2.2.2.2.1,d.2.2.2.2.2.2.2.2.2.1,t2,d.2.2.2.2.2.2.2.2.2.2.2.1,())
   else none
  else none
 else
  YT (d.1,d.2.1,d.2.2.1,d.2.2.2.2.1,d.2.2.2.2.2.1,d.2.2.2.2.2.2.1,d.2.2.2.2.2.2.2.1,d.2.2.2.2.2.2.2.2.1,d.2.2.2.2.2.2.2.2.2.1,d.2.2.2.2.2.2.2.2.2.2.1,d.2.2.2.2.2.2.2.2.2.2.2.1,())
def abf (d:iL):O (j5×H):=
 bif (0:Int)<=d.2.1&&d.2.1<=(d.1.length:Int) then
  let t0:=(List.drop 0 (List.take (d.2.1.toNat) d.1))
  bif 0<=d.2.1&&d.2.1<(d.1.length:Int) then
   let t1:Int:=((d.1.getD (d.2.1.toNat) 0).toNat:Int)
   bif (0<=(i64.wrap (d.2.1+1))&&((i64.wrap (d.2.1+1)):Int)<=(d.1.length:Int)&&((d.1.length:Int):Int)<=(d.1.length:Int)) then
    let t2:=(List.drop (Int.toNat (i64.wrap (d.2.1+1))) (List.take (Int.toNat (d.1.length:Int)) d.1))
    let t3:=(decide (((i64.wrap t1):Int)=2))
    bif t3 then
     let t4:=(decide ((((t2.length):Int):Int)=2))
     YV (d.1,d.2.1,t2,t4,[],0,0,[],t0,(i64.wrap t1),0,[],())
    else
     YV (d.1,d.2.1,t2,false,[],0,0,[],t0,(i64.wrap t1),0,[],())
   else none
  else none
 else none
def YI (d:UN):O (UN⊕((N×bo×H)⊕H)):=
 let t0:=(decide (d.2.2.1<((d.1.length):Int)))
 bif t0 then
  bif 0<=d.2.2.1&&d.2.2.1<(d.1.length:Int) then
   let t1:Int:=((d.1.getD (d.2.2.1.toNat) 0).toNat:Int)
   bif t1=47 then
    bif ((d.2.2.2.1.length+List.length ([d.2.1]:bo))*16<=bC) then
     let t2:bo:=(d.2.2.2.1++([d.2.1]:bo))
     some (.inl (d.1,[],(i64.wrap (d.2.2.1+1)),t2,()))
    else none
   else
    bif (0<=d.2.2.1&&d.2.2.1<=(i64.wrap (d.2.2.1+1))&&((i64.wrap (d.2.2.1+1)):Int)<=(d.1.length:Int)) then
     let t2:=(List.drop (d.2.2.1.toNat) (List.take (Int.toNat (i64.wrap (d.2.2.1+1))) d.1))
     bif d.2.1.length+t2.length<=bC then
      some (.inl (d.1,(d.2.1++t2),(i64.wrap (d.2.2.1+1)),d.2.2.2.1,()))
     else none
    else none
  else none
 else
  some (.inr (.inl (d.2.1,d.2.2.2.1,())))
def YK:=b8 YI
def abe (d:N×H):O (Bool×bo×H):=
 match YK (d.1,[],0,[],()) with
 |none=>none
 |some (.inl z0)=>
  let t1:=decide ((z0.1:N)=[])
  some (t1,z0.2.1,())
 |some (.inr z0)=>
  none
def Zl (d:iL):O (iL⊕((Bool×H)⊕H)):=
 let t0:=(decide (d.2.1<((d.1.length):Int)))
 bif t0 then
  bif 0<=d.2.1&&d.2.1<(d.1.length:Int) then
   let t1:Int:=((d.1.getD (d.2.1.toNat) 0).toNat:Int)
   bif (!(decide (t1<33))) then
    bif 0<=d.2.1&&d.2.1<(d.1.length:Int) then
     let t2:Int:=((d.1.getD (d.2.1.toNat) 0).toNat:Int)
     bif (!(decide (t2>126))) then
      bif 0<=d.2.1&&d.2.1<(d.1.length:Int) then
       let t3:Int:=((d.1.getD (d.2.1.toNat) 0).toNat:Int)
       bif t3=47 then
        some (.inr (.inl (false,())))
       else
        some (.inl (d.1,(i64.wrap (d.2.1+1)),()))
      else none
     else
      some (.inr (.inl (false,())))
    else none
   else
    some (.inr (.inl (false,())))
  else none
 else
  some (.inr (.inr (())))
def Zn:=b8 Zl
def Ot (d:N×H):O (Bool×H):=
 let t0:=(decide ((((d.1.length):Int):Int)<1))
 bif !t0 then
  let t1:=(decide ((((d.1.length):Int):Int)>12))
  bif !t1 then
   let t2:=decide ((d.1:N)=([46]:N))
   bif !t2 then
    let t3:=decide ((d.1:N)=([46,46]:N))
    bif t3 then
     some (false,())
    else
     match Zn (d.1,0,()) with
     |none=>none
     |some (.inl z4)=>
      some (z4.1,())
     |some (.inr z4)=>
      some (true,())
   else
    some (false,())
  else
   some (false,())
 else
  some (false,())
def YP (d:Bool×Int×bo×H):O ((Bool×Int×bo×H)⊕((Bool×H)⊕(Bool×H))):=
 let t0:=(decide (d.2.1<((d.2.2.1.length):Int)))
 bif t0 then
  bif 0<=d.2.1&&d.2.1<(d.2.2.1.length:Int) then
   let t1:=(d.2.2.1.getD (d.2.1.toNat) [])
   match Ot (t1,()) with
   |none=>none
   |some aS=>
    bif !aS.1 then
     some (.inr (.inl (false,())))
    else
     some (.inl (d.1,(i64.wrap (d.2.1+1)),d.2.2.1,()))
  else none
 else
  some (.inr (.inr (d.1,())))
def YR:=b8 YP
def EL (d:N×H):O (Bool×H):=
 match abe (d.1,()) with
 |none=>none
 |some aa=>
  match YR (aa.1,0,aa.2.1,()) with
  |none=>none
  |some (.inl aF)=>
   some (aF.1,())
  |some (.inr aF)=>
   some (aF.1,())
def Zh (d:Int×N×Int×H):O ((Int×N×Int×H)⊕((N×H)⊕H)):=
 bif d.2.2.1<8 then
  let t0:=i64.wrap ((Int.tmod d.1 16)+1)
  bif (0<=(Int.tmod d.1 16)&&((Int.tmod d.1 16):Int)<=t0&&t0<=(List.length ([48,49,50,51,52,53,54,55,56,57,97,98,99,100,101,102]:N):Int)) then
   let t1:=(List.drop (Int.toNat (Int.tmod d.1 16)) (List.take (t0.toNat) ([48,49,50,51,52,53,54,55,56,57,97,98,99,100,101,102]:N)))
   bif t1.length+d.2.1.length<=bC then
    let t2:=i64.wrap (Int.tdiv d.1 16)
    some (.inl (t2,(t1++d.2.1),(i64.wrap (d.2.2.1+1)),()))
   else none
  else none
 else
  some (.inr (.inl (d.2.1,())))
def Zk:=b8 Zh
def Zj (d:At):O (N×H):=
 bif d.2.1 then
  some ([],())
 else
  match Zk (d.1,[],0,()) with
  |none=>none
  |some (.inl z0)=>
   bif List.length ([5]:N)+z0.1.length<=bC then
    bif (List.length (([5]:N)++z0.1)+List.length ([47]:N)<=bC) then
     let t1:N:=((([5]:N)++z0.1)++([47]:N))
     some (t1,())
    else none
   else none
  |some (.inr z0)=>
   none
def abS (d:Int×H):O (N×H):=
 bif (!(decide (d.1<0))) then
  let t0:=decide (d.1>2147483647)
  Zj (d.1,t0,())
 else
  Zj (d.1,true,())
def V3 (d:N×Int×Int×Int×Bool×H):O (Ll⊕(iL⊕H)):=
 bif d.2.2.2.2.1 then
  let t0:=(i64.wrap ((i64.wrap (16*d.2.1))+d.2.2.2.1))
  some (.inl (d.1,(i64.wrap (t0-48)),(i64.wrap (d.2.2.1+1)),()))
 else
  let t0:=(i64.wrap ((i64.wrap (16*d.2.1))+d.2.2.2.1))
  let t1:=(i64.wrap ((i64.wrap (t0-97))+10))
  some (.inl (d.1,t1,(i64.wrap (d.2.2.1+1)),()))
def Xf (d:Ll):O (Ll⊕(iL⊕H)):=
 bif d.2.2.1<9 then
  bif 0<=d.2.2.1&&d.2.2.1<(d.1.length:Int) then
   let t0:Int:=((d.1.getD (d.2.2.1.toNat) 0).toNat:Int)
   let t1:=(decide (((i64.wrap t0):Int)>=48))
   bif t1 then
    let t2:=(decide (((i64.wrap t0):Int)<=57))
    V3 (d.1,d.2.1,d.2.2.1,(i64.wrap t0),t2,())
   else
    V3 (d.1,d.2.1,d.2.2.1,(i64.wrap t0),false,())
  else none
 else
  some (.inr (.inl (d.1,d.2.1,())))
def Xh:=b8 Xf
def FK (d:N×H):O (Bool×H):=
 let t0:=(!decide ((((d.1.length):Int):Int)=10))
 bif t0 then
  some (false,())
 else
  match Xh (d.1,0,1,()) with
  |none=>none
  |some (.inl aF)=>
   match abS (aF.2.1,()) with
   |none=>none
   |some aS=>
    some ((decide ((aS.1:N)=aF.1)),())
  |some (.inr aF)=>
   none
def lE (d:Bool×j5×H):O ((j5×H)⊕(Bool×H)):=
 bif d.1 then
  some (.inr (false,()))
 else
  some (.inl (d.2.1,()))
def yZ (d:j5×H):O ((Bool×H)⊕H):=
 bif d.1.2.1=4 then
  match EL (d.1.1,()) with
  |none=>none
  |some aa=>
   some (.inl (aa.1,()))
 else
  some (.inl (false,()))
def lF (d:j5×H):O ((Bool×H)⊕H):=
 bif d.1.2.1=1 then
  some (.inl (true,()))
 else
  bif d.1.2.1=2 then
   bif d.1.2.2.1>=0 then
    let t0:=decide (d.1.2.2.1<=60000)
    some (.inl (t0,()))
   else
    some (.inl (false,()))
  else
   bif d.1.2.1=3 then
    match Ot (d.1.2.2.2.1,()) with
    |none=>none
    |some aa=>
     some (.inl (aa.1,()))
   else
    match yZ (d.1,()) with
    |none=>none
    |some (.inl z0)=>
     some (.inl (z0.1,()))
    |some (.inr z0)=>
     none
def abg (d:j5×H):O (Bool×H):=
 match EL (d.1.1,()) with
 |none=>none
 |some aa=>
  bif !aa.1 then
   match FK (d.1.1,()) with
   |none=>none
   |some ah=>
    bif (!(!ah.1)) then
     bif (!(d.1.2.1=2)) then
      let t2:=(!decide (d.1.2.2.1=0))
      bif !t2 then
       bif (!(d.1.2.1=3)) then
        let t3:=(!decide ((d.1.2.2.2.1:N)=[]))
        match lE (t3,d.1,()) with
        |none=>none
        |some (.inl z4)=>
         match lF (z4.1,()) with
         |none=>none
         |some (.inl z5)=>
          some (z5.1,())
         |some (.inr z5)=>
          none
        |some (.inr z4)=>
         some (z4.1,())
       else
        match lE (false,d.1,()) with
        |none=>none
        |some (.inl z3)=>
         match lF (z3.1,()) with
         |none=>none
         |some (.inl z4)=>
          some (z4.1,())
         |some (.inr z4)=>
          none
        |some (.inr z3)=>
         some (z3.1,())
      else
       match lE (true,d.1,()) with
       |none=>none
       |some (.inl z3)=>
        match lF (z3.1,()) with
        |none=>none
        |some (.inl z4)=>
         some (z4.1,())
        |some (.inr z4)=>
         none
       |some (.inr z3)=>
        some (z3.1,())
     else
      bif (!(d.1.2.1=3)) then
       let t2:=(!decide ((d.1.2.2.2.1:N)=[]))
       match lE (t2,d.1,()) with
       |none=>none
       |some (.inl z3)=>
        match lF (z3.1,()) with
        |none=>none
        |some (.inl z4)=>
         some (z4.1,())
        |some (.inr z4)=>
         none
       |some (.inr z3)=>
        some (z3.1,())
      else
       match lE (false,d.1,()) with
       |none=>none
       |some (.inl z2)=>
        match lF (z2.1,()) with
        |none=>none
        |some (.inl z3)=>
         some (z3.1,())
        |some (.inr z3)=>
         none
       |some (.inr z2)=>
        some (z2.1,())
    else
     match lE (true,d.1,()) with
     |none=>none
     |some (.inl z2)=>
      match lF (z2.1,()) with
      |none=>none
      |some (.inl z3)=>
       some (z3.1,())
      |some (.inr z3)=>
       none
     |some (.inr z2)=>
      some (z2.1,())
  else
   bif (!(d.1.2.1=2)) then
    let t1:=(!decide (d.1.2.2.1=0))
    bif !t1 then
     bif (!(d.1.2.1=3)) then
      let t2:=(!decide ((d.1.2.2.2.1:N)=[]))
      match lE (t2,d.1,()) with
      |none=>none
      |some (.inl z3)=>
       match lF (z3.1,()) with
       |none=>none
       |some (.inl z4)=>
        some (z4.1,())
       |some (.inr z4)=>
        none
      |some (.inr z3)=>
       some (z3.1,())
     else
      match lE (false,d.1,()) with
      |none=>none
      |some (.inl z2)=>
       match lF (z2.1,()) with
       |none=>none
       |some (.inl z3)=>
        some (z3.1,())
       |some (.inr z3)=>
        none
      |some (.inr z2)=>
       some (z2.1,())
    else
     match lE (true,d.1,()) with
     |none=>none
     |some (.inl z2)=>
      match lF (z2.1,()) with
      |none=>none
      |some (.inl z3)=>
       some (z3.1,())
      |some (.inr z3)=>
       none
     |some (.inr z2)=>
      some (z2.1,())
   else
    bif (!(d.1.2.1=3)) then
     let t1:=(!decide ((d.1.2.2.2.1:N)=[]))
     match lE (t1,d.1,()) with
     |none=>none
     |some (.inl z2)=>
      match lF (z2.1,()) with
      |none=>none
      |some (.inl z3)=>
       some (z3.1,())
      |some (.inr z3)=>
       none
     |some (.inr z2)=>
      some (z2.1,())
    else
     match lE (false,d.1,()) with
     |none=>none
     |some (.inl aF)=>
      match lF (aF.1,()) with
      |none=>none
      |some (.inl z2)=>
       some (z2.1,())
      |some (.inr z2)=>
       none
     |some (.inr aF)=>
      some (aF.1,())
def acB (d:j5×H):O iL:=
 match abg (d.1,()) with
 |none=>none
 |some aa=>
  bif !aa.1 then
   some ([],12,())
  else
   bif d.1.2.1=1 then
    bif d.1.1.length+List.length ([1]:N)<=bC then
     some ((d.1.1++([1]:N)),0,())
    else none
   else
    bif d.1.2.1=2 then
     bif d.1.1.length+List.length ([2]:N)<=bC then
      let t1:=i64.wrap (Int.tdiv d.1.2.2.1 256)
      let t2:=(IntKind.u8.wrap (Int.tmod d.1.2.2.1 256))
      let t3:N:=(qv ([(IntKind.u8.wrap t1),t2]:cC))
      bif (List.length (d.1.1++([2]:N))+t3.length<=bC) then
       some (((d.1.1++([2]:N))++t3),0,())
      else none
     else none
    else
     bif d.1.2.1=3 then
      bif d.1.1.length+List.length ([3]:N)<=bC then
       bif (List.length (d.1.1++([3]:N))+d.1.2.2.2.1.length<=bC) then
        let t1:N:=((d.1.1++([3]:N))++d.1.2.2.2.1)
        some (t1,0,())
       else none
      else none
     else
      bif List.length ([6]:N)+d.1.1.length<=bC then
       bif (List.length (([6]:N)++d.1.1)+List.length ([1]:N)<=bC) then
        let t1:N:=((([6]:N)++d.1.1)++([1]:N))
        some (t1,0,())
       else none
      else none
def Wf (d:N×Int×Bool×N×Int×Int×N×H):O (K9⊕((Int×j5×H)⊕j5)):=
 bif d.2.2.1 then
  some (.inl (d.1,(i64.wrap (d.2.1+1)),d.2.2.2.1,d.2.2.2.2.1,d.2.2.2.2.2.1,d.2.2.2.2.2.2.1,()))
 else
  match abf (d.1,d.2.1,()) with
  |none=>none
  |some aa=>
   match acB (aa.1,()) with
   |none=>none
   |some ah=>
    bif ah.2.1=0 then
     bif (ah.1:N)=d.1 then
      some (.inr (.inl (0,aa.1,())))
     else
      some (.inl (d.1,(i64.wrap (d.2.1+1)),d.2.2.2.1,d.2.2.2.2.1,d.2.2.2.2.2.1,d.2.2.2.2.2.2.1,()))
    else
     some (.inl (d.1,(i64.wrap (d.2.1+1)),d.2.2.2.1,d.2.2.2.2.1,d.2.2.2.2.2.1,d.2.2.2.2.2.2.1,()))
def YL (d:K9):O (K9⊕((Int×j5×H)⊕j5)):=
 let t0:=(decide (d.2.1<((d.1.length):Int)))
 bif t0 then
  bif 0<=d.2.1&&d.2.1<(d.1.length:Int) then
   let t1:Int:=((d.1.getD (d.2.1.toNat) 0).toNat:Int)
   bif (!(decide (t1<1))) then
    bif 0<=d.2.1&&d.2.1<(d.1.length:Int) then
     let t2:Int:=((d.1.getD (d.2.1.toNat) 0).toNat:Int)
     Wf (d.1,d.2.1,(decide (t2>3)),d.2.2.1,d.2.2.2.1,d.2.2.2.2.1,d.2.2.2.2.2.1,())
    else none
   else
    Wf (d.1,d.2.1,true,d.2.2.1,d.2.2.2.1,d.2.2.2.2.1,d.2.2.2.2.2.1,())
  else none
 else
  some (.inr (.inr (d.2.2.1,d.2.2.2.1,d.2.2.2.2.1,d.2.2.2.2.2.1,())))
def YN:=b8 YL
def tD (d:N×H):O (j5×Int×H):=
 match YN (d.1,0,[],0,0,[],()) with
 |none=>none
 |some (.inl z0)=>
  some (z0.2.1,z0.1,())
 |some (.inr z0)=>
  some (([],(0,(0,([],())))),12,())
def tp (d:N×H):O (Bool×H):=
 match tD (d.1,()) with
 |none=>none
 |some aa=>
  bif aa.2.1=0 then
   some ((decide (aa.1.2.1=1)),())
  else
   some (false,())
def rG (d:lW×Int×H):O tV:=
 let t0:Int:=(if ((i64.wrap (d.1.2.1+d.2.1)):Int)<1000000000000000 then (i64.wrap (d.1.2.1+d.2.1)) else 1000000000000000)
 some ((d.1.1,(t0,())),())
def tE (d:lW×Int×H):O tV:=
 let t0:Int:=(if (0:Int)<(i64.wrap (d.1.1-d.2.1)) then (i64.wrap (d.1.1-d.2.1)) else 0)
 some ((t0,(d.1.2.1,())),())
def Ki (d:N×N×Bool×Bool×H):O (Bool×H):=
 bif !d.2.2.1 then
  bif !d.2.2.2.1 then
   match FK (d.1,()) with
   |none=>none
   |some aa=>
    bif aa.1 then
     match FK (d.2.1,()) with
     |none=>none
     |some ah=>
      some (ah.1,())
    else
     some (false,())
  else
   some (true,())
 else
  some (true,())
def Kh (d:Ao):O (Bool×H):=
 let t0:=(!decide ((d.1:N)=[]))
 bif t0 then
  let t1:=(!decide ((d.2.1:N)=[]))
  bif t1 then
   match EL (d.1,()) with
   |none=>none
   |some aS=>
    bif aS.1 then
     match EL (d.2.1,()) with
     |none=>none
     |some bV=>
      Ki (d.1,d.2.1,d.2.2.1,bV.1,())
    else
     Ki (d.1,d.2.1,d.2.2.1,false,())
  else
   Ki (d.1,d.2.1,d.2.2.1,false,())
 else
  Ki (d.1,d.2.1,d.2.2.1,false,())
def tM (d:aK):O (Bool×H):=
 let t0:=(decide ((((d.1.length):Int):Int)>0))
 bif t0 then
  bif (0:Int)<(d.1.length:Int) then
   let t1:=(decide ((((d.1.getD 0 0).toNat:Int):Int)=6))
   bif t1 then
    let t2:=(decide ((((d.2.1.length):Int):Int)>0))
    bif t2 then
     bif (0:Int)<(d.2.1.length:Int) then
      let t3:=(decide ((((d.2.1.getD 0 0).toNat:Int):Int)=6))
      Kh (d.1,d.2.1,t3,())
     else none
    else
     Kh (d.1,d.2.1,false,())
   else
    Kh (d.1,d.2.1,false,())
  else none
 else
  Kh (d.1,d.2.1,false,())
def k9 (d:eV×bE×H):O (eV×H):=
 bif d.2.1.1=1 then
  match tp (d.2.1.2.1,()) with
  |none=>none
  |some aa=>
   bif aa.1 then
    match rG (d.1.1,1,()) with
    |none=>none
    |some ah=>
     some ((ah.1,(d.1.2.1,())),())
   else
    match tE (d.1.2.1,64,()) with
    |none=>none
    |some ah=>
     match rG (ah.1,((d.2.1.2.2.1.length):Int),()) with
     |none=>none
     |some aS=>
      some ((d.1.1,(aS.1,())),())
 else
  bif d.2.1.1=2 then
   match tp (d.2.1.2.1,()) with
   |none=>none
   |some aa=>
    bif aa.1 then
     match tE (d.1.1,1,()) with
     |none=>none
     |some ah=>
      some ((ah.1,(d.1.2.1,())),())
    else
     match tE (d.1.2.1,64,()) with
     |none=>none
     |some ah=>
      some ((d.1.1,(ah.1,())),())
  else
   bif d.2.1.1=6 then
    some (d.1,())
   else
    bif d.2.1.1=3 then
     some (((0,(d.1.1.2.1,())),((0,(d.1.2.1.2.1,())),())),())
    else
     match tM (d.2.1.2.2.2.2.1,d.2.1.2.2.2.2.2.1,()) with
     |none=>none
     |some aa=>
      bif !aa.1 then
       some (((0,(1000000000000000,())),((0,(1000000000000000,())),())),())
      else
       bif d.2.1.1=5 then
        match rG ((0,(d.1.1.2.1,())),d.1.1.2.1,()) with
        |none=>none
        |some ah=>
         match rG ((0,(d.1.2.1.2.1,())),d.1.2.1.2.1,()) with
         |none=>none
         |some aS=>
          some ((ah.1,(aS.1,())),())
       else
        some (((0,(d.1.1.2.1,())),((0,(d.1.2.1.2.1,())),())),())
def zw (d:cp×H):O tV:=
 match tD (d.1.1,()) with
 |none=>none
 |some aa=>
  bif (!(aa.2.1=0)) then
   some ((0,(0,())),())
  else
   bif aa.1.2.1=1 then
    some ((1,(0,())),())
   else
    bif aa.1.2.1=2 then
     some ((0,(((d.1.2.1.length):Int),())),())
    else
     bif aa.1.2.1=3 then
      some ((0,(((d.1.2.1.length):Int),())),())
     else
      some ((0,(0,())),())
def tk (d:ak×Int×Int×Int×Int×Int×H):O ((ak×Int×Int×Int×Int×Int×H)⊕((Int×Int×Int×Int×H)⊕H)):=
 let t0:=(decide (d.2.1<((d.1.length):Int)))
 bif t0 then
  bif 0<=d.2.1&&d.2.1<(d.1.length:Int) then
   let t1:=(d.1.getD (d.2.1.toNat) ([],([],(0,()))))
   match zw (t1,()) with
   |none=>none
   |some aS=>
    let t3:=i64.wrap (d.2.2.2.2.1+aS.1.1)
    let t4:=i64.wrap (d.2.2.2.2.2.1+aS.1.2.1)
    some (.inl (d.1,(i64.wrap (d.2.1+1)),d.2.2.1,d.2.2.2.1,t3,t4,()))
  else none
 else
  some (.inr (.inl (d.2.2.1,d.2.2.2.1,d.2.2.2.2.1,d.2.2.2.2.2.1,())))
def Ke:=b8 tk
def zI (d:ak×H):O tV:=
 match Ke (d.1,0,0,0,0,0,()) with
 |none=>none
 |some (.inl z0)=>
  some ((z0.2.2.1,(z0.2.2.2.1,())),())
 |some (.inr z0)=>
  none
def F6 (d:tV):O (eV×H):=
 some (((d.1.1,(d.1.1,())),((d.1.2.1,(d.1.2.1,())),())),())
def ts (d:FB):O (FB⊕((cz×Int×Int×Int×Int×eV×H)⊕H)):=
 let t0:=(decide (d.1<((d.2.1.2.2.2.1.length):Int)))
 bif t0 then
  bif 0<=d.1&&d.1<(d.2.1.2.2.2.1.length:Int) then
   let t1:=(d.2.1.2.2.2.1.getD (d.1.toNat) ((0,(0,())),((0,(0,())),())))
   match AN (d.2.2.2.2.2.2.1,t1,()) with
   |none=>none
   |some aS=>
    some (.inl ((i64.wrap (d.1+1)),d.2.1,d.2.2.1,d.2.2.2.1,d.2.2.2.2.1,d.2.2.2.2.2.1,aS.1,()))
  else none
 else
  some (.inr (.inl (d.2.1,d.2.2.1,d.2.2.2.1,d.2.2.2.2.1,d.2.2.2.2.2.1,d.2.2.2.2.2.2.1,())))
def FN:=b8 ts
def tt (d:FB):O (FB⊕((Int×Int×Int×Int×eV×H)⊕H)):=
 let t0:=(decide (d.1<((d.2.1.2.2.2.2.1.length):Int)))
 bif t0 then
  bif 0<=d.1&&d.1<(d.2.1.2.2.2.2.1.length:Int) then
   let t1:=(d.2.1.2.2.2.2.1.getD (d.1.toNat) (0,([],([],(([],([],())),([],([],(0,()))))))))
   match k9 (d.2.2.2.2.2.2.1,t1,()) with
   |none=>none
   |some aS=>
    some (.inl ((i64.wrap (d.1+1)),d.2.1,d.2.2.1,d.2.2.2.1,d.2.2.2.2.1,d.2.2.2.2.2.1,aS.1,()))
  else none
 else
  some (.inr (.inl (d.2.2.1,d.2.2.2.1,d.2.2.2.2.1,d.2.2.2.2.2.1,d.2.2.2.2.2.2.1,())))
def FO:=b8 tt
def na (d:cz×H):O (eV×H):=
 let t0:=(decide ((((d.1.2.2.1.length):Int):Int)=0))
 bif t0 then
  match zI (d.1.1,()) with
  |none=>none
  |some ah=>
   match F6 (ah.1,()) with
   |none=>none
   |some aS=>
    some (aS.1,())
 else
  match FN (0,d.1,0,0,0,0,((0,(0,())),((0,(0,())),())),()) with
  |none=>none
  |some (.inl aF)=>
   match FO (0,aF.1,aF.2.1,aF.2.2.1,aF.2.2.2.1,aF.2.2.2.2.1,aF.2.2.2.2.2.1,()) with
   |none=>none
   |some (.inl z2)=>
    some (z2.2.2.2.2.1,())
   |some (.inr z2)=>
    none
  |some (.inr aF)=>
   none
def KL (d:Int×cb×H):O (Bool×cb×H):=
 bif d.1>=0 then
  let t0:=(decide (d.1<((d.2.1.length):Int)))
  bif t0 then
   bif 0<=d.1&&d.1<(d.2.1.length:Int) then
    let t1:=(d.2.1.getD (d.1.toNat) (false,(false,(0,(([],([],([],([],([],()))))),())))))
    some (t1.1,d.2.1,())
   else none
  else
   some (false,d.2.1,())
 else
  some (false,d.2.1,())
def Ej (d:cC×cb×cb×H):O ((cC×cb×cb×H)⊕((cb×cb×H)⊕H)):=
 let t0:=(decide ((((d.1.length):Int):Int)>0))
 bif t0 then
  bif (0:Int)<(d.1.length:Int) then
   bif ((1:Int)<=(d.1.length:Int)&&((d.1.length:Int):Int)<=(d.1.length:Int)) then
    let t1:=(List.drop (Int.toNat 1) (List.take (Int.toNat (d.1.length:Int)) d.1))
    match KL ((d.1.getD 0 0),d.2.2.1,()) with
    |none=>none
    |some aS=>
     bif !aS.1 then
      some (.inl (t1,d.2.1,aS.2.1,()))
     else
      bif (0<=(d.1.getD 0 0)&&((d.1.getD 0 0):Int)<(aS.2.1.length:Int)) then
       let t3:=(aS.2.1.getD (Int.toNat (d.1.getD 0 0)) (false,(false,(0,(([],([],([],([],([],()))))),())))))
       let t4:=i64.wrap (t3.2.2.1-1)
       bif (0<=(d.1.getD 0 0)&&((d.1.getD 0 0):Int)<(aS.2.1.length:Int)) then
        let t5:=(List.set aS.2.1 (Int.toNat (d.1.getD 0 0)) ((aS.2.1.getD (Int.toNat (d.1.getD 0 0)) (false,(false,(0,(([],([],([],([],([],()))))),()))))).1,((aS.2.1.getD (Int.toNat (d.1.getD 0 0)) (false,(false,(0,(([],([],([],([],([],()))))),()))))).2.1,(t4,(aS.2.1.getD (Int.toNat (d.1.getD 0 0)) (false,(false,(0,(([],([],([],([],([],()))))),()))))).2.2.2))))
        bif (0<=(d.1.getD 0 0)&&((d.1.getD 0 0):Int)<(t5.length:Int)) then
         let t6:=(t5.getD (Int.toNat (d.1.getD 0 0)) (false,(false,(0,(([],([],([],([],([],()))))),())))))
         bif t6.2.2.1=0 then
          bif ((List.length ([]:cC)+t1.length)*8<=bC) then
           bif (0<=(d.1.getD 0 0)&&((d.1.getD 0 0):Int)<(t5.length:Int)) then
            let t7:=(t5.getD (Int.toNat (d.1.getD 0 0)) (false,(false,(0,(([],([],([],([],([],()))))),())))))
            bif ((List.length ([]++t1)+t7.2.2.2.1.2.2.1.length)*8<=bC) then
             let t8:cC:=(([]++t1)++t7.2.2.2.1.2.2.1)
             bif (0<=(d.1.getD 0 0)&&((d.1.getD 0 0):Int)<(t5.length:Int)) then
              let t9:=(List.set t5 (Int.toNat (d.1.getD 0 0)) (false,(false,(0,(([],([],([],([],([],()))))),())))))
              some (.inl (t8,d.2.1,t9,()))
             else none
            else none
           else none
          else none
         else
          some (.inl (t1,d.2.1,t5,()))
        else none
       else none
      else none
   else none
  else none
 else
  some (.inr (.inl (d.2.1,d.2.2.1,())))
def M3:=b8 Ej
def zO (d:fq):O fq:=
 match zP (d.1,d.2.1,()) with
 |none=>none
 |some aa=>
  bif !aa.1 then
   some (d.1,110,())
  else
   match Ey (d.1,()) with
   |none=>none
   |some ah=>
    match M3 (([d.2.1]:cC),[],ah.1,()) with
    |none=>none
    |some (.inl z2)=>
     some ((z2.2.1,()),0,())
    |some (.inr z2)=>
     none
def oP (d:fq):O (Bool×H):=
 bif d.2.1>=0 then
  let t0:=(decide (d.2.1<((d.1.1.length):Int)))
  bif t0 then
   bif 0<=d.2.1&&d.2.1<(d.1.1.length:Int) then
    let t1:=(d.1.1.getD (d.2.1.toNat) (false,(false,(0,(([],([],([],([],([],()))))),())))))
    some (t1.1,())
   else none
  else
   some (false,())
 else
  some (false,())
def d9 (d:fq):O (cz×Int×H):=
 match oP (d.1,d.2.1,()) with
 |none=>none
 |some aa=>
  bif !aa.1 then
   some (([],([],([],([],([],()))))),110,())
  else
   bif 0<=d.2.1&&d.2.1<(d.1.1.length:Int) then
    let t1:=(d.1.1.getD (d.2.1.toNat) (false,(false,(0,(([],([],([],([],([],()))))),())))))
    bif t1.2.1 then
     some (([],([],([],([],([],()))))),112,())
    else
     bif 0<=d.2.1&&d.2.1<(d.1.1.length:Int) then
      let t2:=(d.1.1.getD (d.2.1.toNat) (false,(false,(0,(([],([],([],([],([],()))))),())))))
      some (t2.2.2.2.1,0,())
     else none
   else none
def i9 (d:N×H):O (Bool×H):=
 some ((!decide ((d.1:N)=d.1)),())
def Dl (d:aK):O (Int×H):=
 match i9 (d.1,()) with
 |none=>none
 |some aa=>
  match i9 (d.2.1,()) with
  |none=>none
  |some ah=>
   bif aa.1 then
    bif ah.1 then
     some (0,())
    else
     some ((-1:Int),())
   else
    bif ah.1 then
     some (1,())
    else
     bif (Op.bytesLess d.1 d.2.1) then
      some ((-1:Int),())
     else
      let t2:=(!(Op.bytesLess d.1 d.2.1||decide ((d.1:N)=d.2.1)))
      bif t2 then
       some (1,())
      else
       some (0,())
def pZ (d:aK):O (Int×H):=
 bif (d.1:N)=d.2.1 then
  some (0,())
 else
  let t0:=decide ((d.1:N)=[])
  bif t0 then
   some (1,())
  else
   let t1:=decide ((d.2.1:N)=[])
   bif t1 then
    some ((-1:Int),())
   else
    match Dl (d.1,d.2.1,()) with
    |none=>none
    |some aS=>
     some (aS.1,())
def xY (d:bo×N×Int×H):O ((bo×N×Int×H)⊕((N×H)⊕H)):=
 let t0:=(decide (d.2.2.1<((d.1.length):Int)))
 bif t0 then
  bif 0<=d.2.2.1&&d.2.2.1<(d.1.length:Int) then
   let t1:=(d.1.getD (d.2.2.1.toNat) [])
   match pZ (t1,d.2.1,()) with
   |none=>none
   |some aS=>
    bif aS.1<0 then
     bif 0<=d.2.2.1&&d.2.2.1<(d.1.length:Int) then
      let t3:=(d.1.getD (d.2.2.1.toNat) [])
      some (.inl (d.1,t3,(i64.wrap (d.2.2.1+1)),()))
     else none
    else
     some (.inl (d.1,d.2.1,(i64.wrap (d.2.2.1+1)),()))
  else none
 else
  some (.inr (.inl (d.2.1,())))
def ip:=b8 xY
def Sz (d:bo×H):O (N×H):=
 let t0:=(decide ((((d.1.length):Int):Int)<1))
 bif t0 then
  none
 else
  bif (0:Int)<(d.1.length:Int) then
   match ip (d.1,(d.1.getD 0 []),1,()) with
   |none=>none
   |some (.inl aF)=>
    some (aF.1,())
   |some (.inr aF)=>
    none
  else none
def Gk (d:bo×H):O (N×H):=
 match Sz (d.1,()) with
 |none=>none
 |some aa=>
  some (aa.1,())
def kI (d:aK×H):O (Bool×H):=
 let t0:=(!decide ((d.1.2.1:N)=[]))
 bif t0 then
  let t1:=(Op.bytesLess d.1.2.1 d.1.1||decide ((d.1.2.1:N)=d.1.1))
  some (t1,())
 else
  some (false,())
def tY (d:uz):O (aK×H):=
 let t0:N:=(bif !(Op.bytesLess d.1.1 d.2.1.1) then d.1.1 else d.2.1.1)
 match Gk (([d.1.2.1,d.2.1.2.1]:bo),()) with
 |none=>none
 |some ah=>
  match kI ((t0,(ah.1,())),()) with
  |none=>none
  |some aS=>
   bif aS.1 then
    some ((([97]:N),(([97]:N),())),())
   else
    some ((t0,(ah.1,())),())
def ZC (d:Uq):O (Uq⊕((N×aK×aw×H)⊕H)):=
 bif d.2.2.2.1<d.2.2.1 then
  bif 0<=d.2.2.2.1&&d.2.2.2.1<(d.2.1.length:Int) then
   let t0:=(d.2.1.getD (d.2.2.2.1.toNat) [])
   match tY (d.2.2.2.2.1,(d.1,(t0,())),()) with
   |none=>none
   |some ah=>
    bif ((d.2.2.2.2.2.1.length+List.length ([ah.1]:aw))*32<=bC) then
     let t2:aw:=(d.2.2.2.2.2.1++([ah.1]:aw))
     let t3:=i64.wrap (d.2.2.2.1+1)
     some (.inl (t0,d.2.1,d.2.2.1,t3,d.2.2.2.2.1,t2,()))
    else none
  else none
 else
  some (.inr (.inl (d.1,d.2.2.2.2.1,d.2.2.2.2.2.1,())))
def ZE:=b8 ZC
def rU (d:aK×bo×H):O (aw×H):=
 match ZE ([],d.2.1,((d.2.1.length):Int),0,d.1,[],()) with
 |none=>none
 |some (.inl z0)=>
  match tY (z0.2.1,(z0.1,([],())),()) with
  |none=>none
  |some ah=>
   bif ((z0.2.2.1.length+List.length ([ah.1]:aw))*32<=bC) then
    let t2:aw:=(z0.2.2.1++([ah.1]:aw))
    some (t2,())
   else none
 |some (.inr z0)=>
  none
def AQ (d:Ar):O (aw×H):=
 let t0:=(decide ((((d.1.2.2.1.length):Int):Int)=0))
 bif t0 then
  some ([],())
 else
  match rU (d.2.1,d.1.2.1,()) with
  |none=>none
  |some ah=>
   some (ah.1,())
def qw (d:N×H):O (aK×H):=
 bif d.1.length+List.length ([0]:N)<=bC then
  some ((d.1,((d.1++([0]:N)),())),())
 else none
def Ms (d:bE×H):O (aw×H):=
 match qw (d.1.2.1,()) with
 |none=>none
 |some aa=>
  some (([aa.1]:aw),())
def Mp (d:bE×H):O (aw×H):=
 match qw (d.1.2.1,()) with
 |none=>none
 |some aa=>
  some (([aa.1]:aw),())
def TZ (d:bE×H):O (aw×H):=
 some (([d.1.2.2.2.1]:aw),())
def JJ (d:N×Bool×N×N×cC×H):O (Aq⊕(Aq⊕H)):=
 bif d.2.1 then
  let t0:=(i64.wrap (((d.2.2.2.2.1.length):Int)-1))
  bif (0:Int)<=t0&&t0<=(d.2.2.2.2.1.length:Int) then
   some (.inl (d.1,d.2.2.1,d.2.2.2.1,(List.take (t0.toNat) d.2.2.2.2.1),()))
  else none
 else
  some (.inr (.inl (d.1,d.2.2.1,d.2.2.2.1,d.2.2.2.2.1,())))
def zg (d:Aq):O (Aq⊕(Aq⊕H)):=
 let t0:=(decide ((((d.2.2.2.1.length):Int):Int)>0))
 bif t0 then
  let t1:=(i64.wrap (((d.2.2.2.1.length):Int)-1))
  bif 0<=t1&&t1<(d.2.2.2.1.length:Int) then
   let t2:=(d.2.2.2.1.getD (t1.toNat) 0)
   JJ (d.1,(decide (t2=255)),d.2.1,d.2.2.1,d.2.2.2.1,())
  else none
 else
  JJ (d.1,false,d.2.1,d.2.2.1,d.2.2.2.1,())
def Mj:=b8 zg
def kU (d:N×H):O (aK×H):=
 bif d.1.length<=bC then
  match Mj (d.1,[],[],(fl d.1),()) with
  |none=>none
  |some (.inl z0)=>
   let t1:=(decide ((((z0.2.2.2.1.length):Int):Int)>0))
   bif t1 then
    let t2:=(i64.wrap (((z0.2.2.2.1.length):Int)-1))
    bif 0<=t2&&t2<(z0.2.2.2.1.length:Int) then
     let t3:=(z0.2.2.2.1.getD (t2.toNat) 0)
     bif 0<=t2&&t2<(z0.2.2.2.1.length:Int) then
      let t4:=(List.set z0.2.2.2.1 (t2.toNat) (IntKind.u8.wrap (t3+1)))
      some ((z0.1,((qv t4),())),())
     else none
    else none
   else
    some ((z0.1,((qv z0.2.2.2.1),())),())
  |some (.inr z0)=>
   none
 else none
def T0 (d:bE×H):O (aw×H):=
 match kU (d.1.2.2.2.2.1,()) with
 |none=>none
 |some aa=>
  match kU (d.1.2.2.2.2.2.1,()) with
  |none=>none
  |some ah=>
   some (([aa.1,ah.1]:aw),())
def TJ (d:bE×H):O (aw×H):=
 match kU (d.1.2.2.2.2.2.1,()) with
 |none=>none
 |some aa=>
  some (([aa.1]:aw),())
def TK (d:bE×H):O (aw×H):=
 some (([d.1.2.2.2.1]:aw),())
def qk (d:bE×H):O (aw×H):=
 bif d.1.1=1 then
  match Ms (d.1,()) with
  |none=>none
  |some aa=>
   some (aa.1,())
 else
  bif d.1.1=2 then
   match Mp (d.1,()) with
   |none=>none
   |some aa=>
    some (aa.1,())
  else
   bif d.1.1=3 then
    match TZ (d.1,()) with
    |none=>none
    |some aa=>
     some (aa.1,())
   else
    bif d.1.1=4 then
     match T0 (d.1,()) with
     |none=>none
     |some aa=>
      some (aa.1,())
    else
     bif d.1.1=5 then
      match TJ (d.1,()) with
      |none=>none
      |some aa=>
       some (aa.1,())
     else
      bif d.1.1=6 then
       match TK (d.1,()) with
       |none=>none
       |some aa=>
        some (aa.1,())
      else
       some ([],())
def tS (d:cz×H):O (Bool×H):=
 let t0:=(decide ((((d.1.2.2.1.length):Int):Int)=0))
 some (t0,())
def SB (d:aK):O (Int×H):=some ((fun a b=>Lib.compareBytes a b) d.1 d.2.1,())
def T7 (d:aK):O (Int×H):=
 match SB (d.1,d.2.1,()) with
 |none=>none
 |some aa=>
  some (aa.1,())
def Em (d:cp×N×H):O (Int×H):=
 match T7 (d.1.1,d.2.1,()) with
 |none=>none
 |some aa=>
  some (aa.1,())
def HB (d:ak×N×Int×Int×Int×H):O ((ak×N×Int×Int×Int×H)⊕((ak×N×Int×Int×H)⊕H)):=
 let t0:=decide (d.2.2.2.1<d.2.2.2.2.1)
 bif t0 then
  let t1:=i64.wrap (d.2.2.2.1+d.2.2.2.2.1)
  let t2:Int:=(Int.fdiv (IntKind.u64.wrap t1) (2^(min (Int.toNat 1) IntKind.u64.bits)))
  bif (0<=(i64.wrap t2)&&((i64.wrap t2):Int)<(d.1.length:Int)) then
   let t3:=(d.1.getD (Int.toNat (i64.wrap t2)) ([],([],(0,()))))
   match Em (t3,d.2.1,()) with
   |none=>none
   |some dE=>
    bif dE.1<0 then
     let t5:=i64.wrap ((i64.wrap t2)+1)
     some (.inl (d.1,d.2.1,d.2.2.1,t5,d.2.2.2.2.1,()))
    else
     some (.inl (d.1,d.2.1,d.2.2.1,d.2.2.2.1,(i64.wrap t2),()))
  else none
 else
  some (.inr (.inl (d.1,d.2.1,d.2.2.1,d.2.2.2.1,())))
def Qi:=b8 HB
def HC (d:Fu):O At:=
 match Qi (d.1,d.2.1,((d.1.length):Int),0,((d.1.length):Int),()) with
 |none=>none
 |some (.inl z0)=>
  bif z0.2.2.2.1<z0.2.2.1 then
   bif 0<=z0.2.2.2.1&&z0.2.2.2.1<(z0.1.length:Int) then
    let t1:=(z0.1.getD (z0.2.2.2.1.toNat) ([],([],(0,()))))
    match Em (t1,z0.2.1,()) with
    |none=>none
    |some aS=>
     some (z0.2.2.2.1,(decide (aS.1=0)),())
   else none
  else
   some (z0.2.2.2.1,false,())
 |some (.inr z0)=>
  none
def wB (d:Fu):O At:=
 match HC (d.1,d.2.1,()) with
 |none=>none
 |some aa=>
  some (aa.1,aa.2.1,())
def ab0 (d:Fu):O (cp×Bool×H):=
 match wB (d.1,d.2.1,()) with
 |none=>none
 |some aa=>
  bif aa.2.1 then
   bif 0<=aa.1&&aa.1<(d.1.length:Int) then
    let t1:=(d.1.getD (aa.1.toNat) ([],([],(0,()))))
    some (t1,true,())
   else none
  else
   some (([],([],(0,()))),false,())
def Ip (d:cD×H):O (cD×H):=
 some (d.1,())
def pE (d:Lm):O (Bool×H):=
 bif (!(Op.bytesLess d.2.1 d.1.1)) then
  let t0:=decide ((d.1.2.1:N)=[])
  bif !t0 then
   some ((Op.bytesLess d.2.1 d.1.2.1),())
  else
   some (true,())
 else
  some (false,())
def N4 (d:Int×Bool×Bool×N×N×Int×N×Bool×Int×H):O (Bool×Bool×N×N×Int×N×Bool×Int×H):=
 bif !d.2.2.2.2.2.2.2.1 then
  some (d.2.1,d.2.2.1,d.2.2.2.1,d.2.2.2.2.1,d.2.2.2.2.2.1,d.2.2.2.2.2.2.1,true,d.1,())
 else
  some (d.2.1,d.2.2.1,d.2.2.2.1,d.2.2.2.2.1,d.2.2.2.2.2.1,d.2.2.2.2.2.2.1,d.2.2.2.2.2.2.2.1,d.2.2.2.2.2.2.2.2.1,())
def ZL (d:wZ):O (Bool×Bool×Bool×N×N×Int×N×Bool×Int×H):=
 match pE (d.1.2.2.2.1,d.2.2.2.2.2.2.1,()) with
 |none=>none
 |some aa=>
  bif aa.1 then
   match N4 (d.1.2.2.2.2.2.2.1,d.2.1,d.2.2.1,d.2.2.2.1,d.2.2.2.2.1,d.2.2.2.2.2.1,d.2.2.2.2.2.2.1,d.2.2.2.2.2.2.2.1,d.2.2.2.2.2.2.2.2.1,()) with
   |none=>none
   |some ah=>
    some (false,ah.1,ah.2.1,ah.2.2.1,ah.2.2.2.1,ah.2.2.2.2.1,ah.2.2.2.2.2.1,ah.2.2.2.2.2.2.1,ah.2.2.2.2.2.2.2.1,())
  else
   some (false,d.2.1,d.2.2.1,d.2.2.2.1,d.2.2.2.2.1,d.2.2.2.2.2.1,d.2.2.2.2.2.2.1,d.2.2.2.2.2.2.2.1,d.2.2.2.2.2.2.2.2.1,())
def sz (d:aK):O (Bool×H):=
 let t0:=(decide ((((d.1.length):Int):Int)>=((d.2.1.length):Int)))
 bif t0 then
  bif ((0:Int)<=((d.2.1.length):Int)&&(((d.2.1.length):Int):Int)<=(d.1.length:Int)) then
   let t1:=(List.drop 0 (List.take (Int.toNat ((d.2.1.length):Int)) d.1))
   some ((decide ((t1:N)=d.2.1)),())
  else none
 else
  some (false,())
def SC (d:aK):O w6:=
 match sz (d.1,d.2.1,()) with
 |none=>none
 |some aa=>
  bif !aa.1 then
   some (d.1,false,())
  else
   bif (0<=((d.2.1.length):Int)&&(((d.2.1.length):Int):Int)<=(d.1.length:Int)&&((d.1.length:Int):Int)<=(d.1.length:Int)) then
    let t1:=(List.drop (Int.toNat ((d.2.1.length):Int)) (List.take (Int.toNat (d.1.length:Int)) d.1))
    some (t1,true,())
   else none
def JK (d:aK):O w6:=
 match SC (d.1,d.2.1,()) with
 |none=>none
 |some aa=>
  some (aa.1,aa.2.1,())
def wE (d:N×N×N×H):O w6:=
 match JK (d.1,d.2.1,()) with
 |none=>none
 |some aa=>
  bif !aa.2.1 then
   some ([],false,())
  else
   bif d.2.2.1.length+aa.1.length<=bC then
    some ((d.2.2.1++aa.1),true,())
   else none
def OB (d:wZ):O (Bool×Bool×Bool×N×N×Int×N×Bool×Int×H):=
 match wE (d.2.2.2.2.2.2.1,d.1.2.2.2.2.2.1,d.1.2.2.2.2.1,()) with
 |none=>none
 |some aa=>
  bif aa.2.1 then
   some (false,d.2.1,d.2.2.1,d.2.2.2.1,d.2.2.2.2.1,d.2.2.2.2.2.1,aa.1,d.2.2.2.2.2.2.2.1,d.2.2.2.2.2.2.2.2.1,())
  else
   some (false,d.2.1,d.2.2.1,d.2.2.2.1,d.2.2.2.2.1,d.2.2.2.2.2.1,d.2.2.2.2.2.2.1,d.2.2.2.2.2.2.2.1,d.2.2.2.2.2.2.2.2.1,())
def yO (d:aK):O (Bool×H):=
 match sz (d.1,d.2.1,()) with
 |none=>none
 |some aa=>
  some (aa.1,())
def ZK (d:wZ):O (Bool×Bool×Bool×N×N×Int×N×Bool×Int×H):=
 match yO (d.2.2.2.2.2.2.1,d.1.2.2.2.2.1,()) with
 |none=>none
 |some aa=>
  bif !aa.1 then
   match OB (d.1,d.2.1,d.2.2.1,d.2.2.2.1,d.2.2.2.2.1,d.2.2.2.2.2.1,d.2.2.2.2.2.2.1,d.2.2.2.2.2.2.2.1,d.2.2.2.2.2.2.2.2.1,()) with
   |none=>none
   |some ah=>
    some (ah.1,ah.2.1,ah.2.2.1,ah.2.2.2.1,ah.2.2.2.2.1,ah.2.2.2.2.2.1,ah.2.2.2.2.2.2.1,ah.2.2.2.2.2.2.2.1,ah.2.2.2.2.2.2.2.2.1,())
  else
   some (true,d.2.1,d.2.2.1,d.2.2.2.1,d.2.2.2.2.1,d.2.2.2.2.2.1,d.2.2.2.2.2.2.1,d.2.2.2.2.2.2.2.1,d.2.2.2.2.2.2.2.2.1,())
def ZJ (d:wZ):O (Bool×Bool×Bool×N×N×Int×N×Bool×Int×H):=
 match pE (d.1.2.2.2.1,d.2.2.2.2.2.2.1,()) with
 |none=>none
 |some aa=>
  some (aa.1,d.2.1,d.2.2.1,d.2.2.2.1,d.2.2.2.2.1,d.2.2.2.2.2.1,d.2.2.2.2.2.2.1,d.2.2.2.2.2.2.2.1,d.2.2.2.2.2.2.2.2.1,())
def ZI (d:wZ):O (Bool×Bool×Bool×N×N×Int×N×Bool×Int×H):=
 let t0:=decide ((d.1.2.1:N)=d.2.2.2.2.2.2.1)
 some (t0,d.2.1,d.2.2.1,d.2.2.2.1,d.2.2.2.2.1,d.2.2.2.2.2.1,d.2.2.2.2.2.2.1,d.2.2.2.2.2.2.2.1,d.2.2.2.2.2.2.2.2.1,())
def ZH (d:wZ):O (Bool×Bool×Bool×N×N×Int×N×Bool×Int×H):=
 let t0:=(!decide ((d.1.2.1:N)=d.2.2.2.2.2.2.1))
 bif t0 then
  some (false,d.2.1,d.2.2.1,d.2.2.2.1,d.2.2.2.2.1,d.2.2.2.2.2.1,d.2.2.2.2.2.2.1,d.2.2.2.2.2.2.2.1,d.2.2.2.2.2.2.2.2.1,())
 else
  match N4 (d.1.2.2.2.2.2.2.1,d.2.1,d.2.2.1,d.2.2.2.1,d.2.2.2.2.1,d.2.2.2.2.2.1,d.2.2.2.2.2.2.1,d.2.2.2.2.2.2.2.1,d.2.2.2.2.2.2.2.2.1,()) with
  |none=>none
  |some ah=>
   some (true,ah.1,true,ah.2.2.1,d.1.2.2.1,ah.2.2.2.2.2.2.2.1,ah.2.2.2.2.2.1,ah.2.2.2.2.2.2.1,ah.2.2.2.2.2.2.2.1,())
def yJ (d:Lb):O Lb:=
 bif d.1 then
  bif d.2.1= -1 then
   some (true,0,d.2.2.1,d.2.2.2.1,d.2.2.2.2.1,d.2.2.2.2.2.1,d.2.2.2.2.2.2.1,d.2.2.2.2.2.2.2.1,d.2.2.2.2.2.2.2.2.1,d.2.2.2.2.2.2.2.2.2.1,d.2.2.2.2.2.2.2.2.2.2.1,d.2.2.2.2.2.2.2.2.2.2.2.1,d.2.2.2.2.2.2.2.2.2.2.2.2.1,d.2.2.2.2.2.2.2.2.2.2.2.2.2.1,d.2.2.2.2.2.2.2.2.2.2.2.2.2.2.1,d.2.2.2.2.2.2.2.2.2.2.2.2.2.2.2.1,d.2.2.2.2.2.2.2.2.2.2.2.2.2.2.2.2.1,d.2.2.2.2.2.2.2.2.2.2.2.2.2.2.2.2.2.1,())
  else none
 else
  bif d.2.2.2.1 then
   bif d.2.1= -1 then
    some (false,1,d.2.2.1,d.2.2.2.1,d.2.2.2.2.1,d.2.2.2.2.2.1,d.2.2.2.2.2.2.1,d.2.2.2.2.2.2.2.1,d.2.2.2.2.2.2.2.2.1,d.2.2.2.2.2.2.2.2.2.1,true,true,d.2.2.2.2.1,d.2.2.2.2.2.1,d.2.2.2.2.2.2.1,[],false,0,())
   else none
  else
   bif d.2.1= -1 then
    some (false,1,d.2.2.1,d.2.2.2.1,d.2.2.2.2.1,d.2.2.2.2.2.1,d.2.2.2.2.2.2.1,d.2.2.2.2.2.2.2.1,d.2.2.2.2.2.2.2.2.1,d.2.2.2.2.2.2.2.2.2.1,true,false,[],[],0,[],false,0,())
   else none
def TD (d:Int×bE×Int×Bool×Bool×N×N×Int×N×Bool×Int×Bool×Bool×N×N×Int×N×Bool×Int×H):O Lb:=
 bif d.2.2.1=0 then
  bif d.2.2.1=0 then
   bif 0<=d.2.1.1&&d.2.1.1<7 then
    bif (Nat.beq (d.2.1.1.toNat) 6) then
     match ZL (d.2.1,d.2.2.2.1,d.2.2.2.2.1,d.2.2.2.2.2.1,d.2.2.2.2.2.2.1,d.2.2.2.2.2.2.2.1,d.2.2.2.2.2.2.2.2.1,d.2.2.2.2.2.2.2.2.2.1,d.2.2.2.2.2.2.2.2.2.2.1,()) with
     |none=>none
     |some aa=>
      yJ ((!aa.1),(-1:Int),aa.2.1,aa.2.2.1,aa.2.2.2.1,aa.2.2.2.2.1,aa.2.2.2.2.2.1,aa.2.2.2.2.2.2.1,aa.2.2.2.2.2.2.2.1,aa.2.2.2.2.2.2.2.2.1,d.2.2.2.2.2.2.2.2.2.2.2.1,d.2.2.2.2.2.2.2.2.2.2.2.2.1,d.2.2.2.2.2.2.2.2.2.2.2.2.2.1,d.2.2.2.2.2.2.2.2.2.2.2.2.2.2.1,d.2.2.2.2.2.2.2.2.2.2.2.2.2.2.2.1,d.2.2.2.2.2.2.2.2.2.2.2.2.2.2.2.2.1,d.2.2.2.2.2.2.2.2.2.2.2.2.2.2.2.2.2.1,d.2.2.2.2.2.2.2.2.2.2.2.2.2.2.2.2.2.2.1,())
    else
     bif (Nat.beq (d.2.1.1.toNat) 5) then
      match OB (d.2.1,d.2.2.2.1,d.2.2.2.2.1,d.2.2.2.2.2.1,d.2.2.2.2.2.2.1,d.2.2.2.2.2.2.2.1,d.2.2.2.2.2.2.2.2.1,d.2.2.2.2.2.2.2.2.2.1,d.2.2.2.2.2.2.2.2.2.2.1,()) with
      |none=>none
      |some aa=>
       yJ ((!aa.1),(-1:Int),aa.2.1,aa.2.2.1,aa.2.2.2.1,aa.2.2.2.2.1,aa.2.2.2.2.2.1,aa.2.2.2.2.2.2.1,aa.2.2.2.2.2.2.2.1,aa.2.2.2.2.2.2.2.2.1,d.2.2.2.2.2.2.2.2.2.2.2.1,d.2.2.2.2.2.2.2.2.2.2.2.2.1,d.2.2.2.2.2.2.2.2.2.2.2.2.2.1,d.2.2.2.2.2.2.2.2.2.2.2.2.2.2.1,d.2.2.2.2.2.2.2.2.2.2.2.2.2.2.2.1,d.2.2.2.2.2.2.2.2.2.2.2.2.2.2.2.2.1,d.2.2.2.2.2.2.2.2.2.2.2.2.2.2.2.2.2.1,d.2.2.2.2.2.2.2.2.2.2.2.2.2.2.2.2.2.2.1,())
     else
      bif (Nat.beq (d.2.1.1.toNat) 4) then
       match ZK (d.2.1,d.2.2.2.1,d.2.2.2.2.1,d.2.2.2.2.2.1,d.2.2.2.2.2.2.1,d.2.2.2.2.2.2.2.1,d.2.2.2.2.2.2.2.2.1,d.2.2.2.2.2.2.2.2.2.1,d.2.2.2.2.2.2.2.2.2.2.1,()) with
       |none=>none
       |some aa=>
        yJ ((!aa.1),(-1:Int),aa.2.1,aa.2.2.1,aa.2.2.2.1,aa.2.2.2.2.1,aa.2.2.2.2.2.1,aa.2.2.2.2.2.2.1,aa.2.2.2.2.2.2.2.1,aa.2.2.2.2.2.2.2.2.1,d.2.2.2.2.2.2.2.2.2.2.2.1,d.2.2.2.2.2.2.2.2.2.2.2.2.1,d.2.2.2.2.2.2.2.2.2.2.2.2.2.1,d.2.2.2.2.2.2.2.2.2.2.2.2.2.2.1,d.2.2.2.2.2.2.2.2.2.2.2.2.2.2.2.1,d.2.2.2.2.2.2.2.2.2.2.2.2.2.2.2.2.1,d.2.2.2.2.2.2.2.2.2.2.2.2.2.2.2.2.2.1,d.2.2.2.2.2.2.2.2.2.2.2.2.2.2.2.2.2.2.1,())
      else
       bif (Nat.beq (d.2.1.1.toNat) 3) then
        match ZJ (d.2.1,d.2.2.2.1,d.2.2.2.2.1,d.2.2.2.2.2.1,d.2.2.2.2.2.2.1,d.2.2.2.2.2.2.2.1,d.2.2.2.2.2.2.2.2.1,d.2.2.2.2.2.2.2.2.2.1,d.2.2.2.2.2.2.2.2.2.2.1,()) with
        |none=>none
        |some aa=>
         yJ ((!aa.1),(-1:Int),aa.2.1,aa.2.2.1,aa.2.2.2.1,aa.2.2.2.2.1,aa.2.2.2.2.2.1,aa.2.2.2.2.2.2.1,aa.2.2.2.2.2.2.2.1,aa.2.2.2.2.2.2.2.2.1,d.2.2.2.2.2.2.2.2.2.2.2.1,d.2.2.2.2.2.2.2.2.2.2.2.2.1,d.2.2.2.2.2.2.2.2.2.2.2.2.2.1,d.2.2.2.2.2.2.2.2.2.2.2.2.2.2.1,d.2.2.2.2.2.2.2.2.2.2.2.2.2.2.2.1,d.2.2.2.2.2.2.2.2.2.2.2.2.2.2.2.2.1,d.2.2.2.2.2.2.2.2.2.2.2.2.2.2.2.2.2.1,d.2.2.2.2.2.2.2.2.2.2.2.2.2.2.2.2.2.2.1,())
       else
        bif (Nat.beq (d.2.1.1.toNat) 2) then
         match ZI (d.2.1,d.2.2.2.1,d.2.2.2.2.1,d.2.2.2.2.2.1,d.2.2.2.2.2.2.1,d.2.2.2.2.2.2.2.1,d.2.2.2.2.2.2.2.2.1,d.2.2.2.2.2.2.2.2.2.1,d.2.2.2.2.2.2.2.2.2.2.1,()) with
         |none=>none
         |some aa=>
          yJ ((!aa.1),(-1:Int),aa.2.1,aa.2.2.1,aa.2.2.2.1,aa.2.2.2.2.1,aa.2.2.2.2.2.1,aa.2.2.2.2.2.2.1,aa.2.2.2.2.2.2.2.1,aa.2.2.2.2.2.2.2.2.1,d.2.2.2.2.2.2.2.2.2.2.2.1,d.2.2.2.2.2.2.2.2.2.2.2.2.1,d.2.2.2.2.2.2.2.2.2.2.2.2.2.1,d.2.2.2.2.2.2.2.2.2.2.2.2.2.2.1,d.2.2.2.2.2.2.2.2.2.2.2.2.2.2.2.1,d.2.2.2.2.2.2.2.2.2.2.2.2.2.2.2.2.1,d.2.2.2.2.2.2.2.2.2.2.2.2.2.2.2.2.2.1,d.2.2.2.2.2.2.2.2.2.2.2.2.2.2.2.2.2.2.1,())
        else
         bif (Nat.beq (d.2.1.1.toNat) 1) then
          match ZH (d.2.1,d.2.2.2.1,d.2.2.2.2.1,d.2.2.2.2.2.1,d.2.2.2.2.2.2.1,d.2.2.2.2.2.2.2.1,d.2.2.2.2.2.2.2.2.1,d.2.2.2.2.2.2.2.2.2.1,d.2.2.2.2.2.2.2.2.2.2.1,()) with
          |none=>none
          |some aa=>
           yJ ((!aa.1),(-1:Int),aa.2.1,aa.2.2.1,aa.2.2.2.1,aa.2.2.2.2.1,aa.2.2.2.2.2.1,aa.2.2.2.2.2.2.1,aa.2.2.2.2.2.2.2.1,aa.2.2.2.2.2.2.2.2.1,d.2.2.2.2.2.2.2.2.2.2.2.1,d.2.2.2.2.2.2.2.2.2.2.2.2.1,d.2.2.2.2.2.2.2.2.2.2.2.2.2.1,d.2.2.2.2.2.2.2.2.2.2.2.2.2.2.1,d.2.2.2.2.2.2.2.2.2.2.2.2.2.2.2.1,d.2.2.2.2.2.2.2.2.2.2.2.2.2.2.2.2.1,d.2.2.2.2.2.2.2.2.2.2.2.2.2.2.2.2.2.1,d.2.2.2.2.2.2.2.2.2.2.2.2.2.2.2.2.2.2.1,())
         else
          bif (Nat.beq (d.2.1.1.toNat) 0) then
           none
          else none
   else none
  else none
 else none
def ag2 (d:Um):O (Um⊕(Fh⊕Fh)):=
 bif d.1>=0 then
  bif 0<=d.1&&d.1<(d.2.2.1.length:Int) then
   let t0:=(d.2.2.1.getD (d.1.toNat) (0,([],([],(([],([],())),([],([],(0,()))))))))
   match TD (d.1,t0,d.2.1,d.2.2.2.1,d.2.2.2.2.1,d.2.2.2.2.2.1,d.2.2.2.2.2.2.1,d.2.2.2.2.2.2.2.1,d.2.2.2.2.2.2.2.2.1,d.2.2.2.2.2.2.2.2.2.1,d.2.2.2.2.2.2.2.2.2.2.1,d.2.2.2.2.2.2.2.2.2.2.2.1,d.2.2.2.2.2.2.2.2.2.2.2.2.1,d.2.2.2.2.2.2.2.2.2.2.2.2.2.1,d.2.2.2.2.2.2.2.2.2.2.2.2.2.2.1,d.2.2.2.2.2.2.2.2.2.2.2.2.2.2.2.1,d.2.2.2.2.2.2.2.2.2.2.2.2.2.2.2.2.1,d.2.2.2.2.2.2.2.2.2.2.2.2.2.2.2.2.2.1,d.2.2.2.2.2.2.2.2.2.2.2.2.2.2.2.2.2.2.1,()) with
   |none=>none
   |some ah=>
    bif !ah.1 then
     some (.inr (.inl (ah.2.1,d.2.2.1,ah.2.2.1,ah.2.2.2.1,ah.2.2.2.2.1,ah.2.2.2.2.2.1,ah.2.2.2.2.2.2.1,ah.2.2.2.2.2.2.2.1,ah.2.2.2.2.2.2.2.2.1,ah.2.2.2.2.2.2.2.2.2.1,ah.2.2.2.2.2.2.2.2.2.2.1,ah.2.2.2.2.2.2.2.2.2.2.2.1,ah.2.2.2.2.2.2.2.2.2.2.2.2.1,ah.2.2.2.2.2.2.2.2.2.2.2.2.2.1,ah.2.2.2.2.2.2.2.2.2.2.2.2.2.2.1,ah.2.2.2.2.2.2.2.2.2.2.2.2.2.2.2.1,ah.2.2.2.2.2.2.2.2.2.2.2.2.2.2.2.2.1,ah.2.2.2.2.2.2.2.2.2.2.2.2.2.2.2.2.2.1,())))
    else
     some (.inl ((i64.wrap (d.1-1)),ah.2.1,d.2.2.1,ah.2.2.1,ah.2.2.2.1,ah.2.2.2.2.1,ah.2.2.2.2.2.1,ah.2.2.2.2.2.2.1,ah.2.2.2.2.2.2.2.1,ah.2.2.2.2.2.2.2.2.1,ah.2.2.2.2.2.2.2.2.2.1,ah.2.2.2.2.2.2.2.2.2.2.1,ah.2.2.2.2.2.2.2.2.2.2.2.1,ah.2.2.2.2.2.2.2.2.2.2.2.2.1,ah.2.2.2.2.2.2.2.2.2.2.2.2.2.1,ah.2.2.2.2.2.2.2.2.2.2.2.2.2.2.1,ah.2.2.2.2.2.2.2.2.2.2.2.2.2.2.2.1,ah.2.2.2.2.2.2.2.2.2.2.2.2.2.2.2.2.1,ah.2.2.2.2.2.2.2.2.2.2.2.2.2.2.2.2.2.1,()))
  else none
 else
  some (.inr (.inr (d.2.1,d.2.2.1,d.2.2.2.1,d.2.2.2.2.1,d.2.2.2.2.2.1,d.2.2.2.2.2.2.1,d.2.2.2.2.2.2.2.1,d.2.2.2.2.2.2.2.2.1,d.2.2.2.2.2.2.2.2.2.1,d.2.2.2.2.2.2.2.2.2.2.1,d.2.2.2.2.2.2.2.2.2.2.2.1,d.2.2.2.2.2.2.2.2.2.2.2.2.1,d.2.2.2.2.2.2.2.2.2.2.2.2.2.1,d.2.2.2.2.2.2.2.2.2.2.2.2.2.2.1,d.2.2.2.2.2.2.2.2.2.2.2.2.2.2.2.1,d.2.2.2.2.2.2.2.2.2.2.2.2.2.2.2.2.1,d.2.2.2.2.2.2.2.2.2.2.2.2.2.2.2.2.2.1,d.2.2.2.2.2.2.2.2.2.2.2.2.2.2.2.2.2.2.1,())))
def ag4:=b8 ag2
def ahv (d:Fh):O Fh:=
 let t0:=(i64.wrap (((d.2.1.length):Int)-1))
 match ag4 (t0,d.1,d.2.1,d.2.2.1,d.2.2.2.1,d.2.2.2.2.1,d.2.2.2.2.2.1,d.2.2.2.2.2.2.1,d.2.2.2.2.2.2.2.1,d.2.2.2.2.2.2.2.2.1,d.2.2.2.2.2.2.2.2.2.1,d.2.2.2.2.2.2.2.2.2.2.1,d.2.2.2.2.2.2.2.2.2.2.2.1,d.2.2.2.2.2.2.2.2.2.2.2.2.1,d.2.2.2.2.2.2.2.2.2.2.2.2.2.1,d.2.2.2.2.2.2.2.2.2.2.2.2.2.2.1,d.2.2.2.2.2.2.2.2.2.2.2.2.2.2.2.1,d.2.2.2.2.2.2.2.2.2.2.2.2.2.2.2.2.1,d.2.2.2.2.2.2.2.2.2.2.2.2.2.2.2.2.2.1,()) with
 |none=>none
 |some (.inl aF)=>
  some (aF.1,aF.2.1,aF.2.2.1,aF.2.2.2.1,aF.2.2.2.2.1,aF.2.2.2.2.2.1,aF.2.2.2.2.2.2.1,aF.2.2.2.2.2.2.2.1,aF.2.2.2.2.2.2.2.2.1,aF.2.2.2.2.2.2.2.2.2.1,aF.2.2.2.2.2.2.2.2.2.2.1,aF.2.2.2.2.2.2.2.2.2.2.2.1,aF.2.2.2.2.2.2.2.2.2.2.2.2.1,aF.2.2.2.2.2.2.2.2.2.2.2.2.2.1,aF.2.2.2.2.2.2.2.2.2.2.2.2.2.2.1,aF.2.2.2.2.2.2.2.2.2.2.2.2.2.2.2.1,aF.2.2.2.2.2.2.2.2.2.2.2.2.2.2.2.2.1,aF.2.2.2.2.2.2.2.2.2.2.2.2.2.2.2.2.2.1,())
 |some (.inr aF)=>
  some (aF.1,aF.2.1,aF.2.2.1,aF.2.2.2.1,aF.2.2.2.2.1,aF.2.2.2.2.2.1,aF.2.2.2.2.2.2.1,aF.2.2.2.2.2.2.2.1,aF.2.2.2.2.2.2.2.2.1,aF.2.2.2.2.2.2.2.2.2.1,aF.2.2.2.2.2.2.2.2.2.2.1,aF.2.2.2.2.2.2.2.2.2.2.2.1,aF.2.2.2.2.2.2.2.2.2.2.2.2.1,aF.2.2.2.2.2.2.2.2.2.2.2.2.2.1,aF.2.2.2.2.2.2.2.2.2.2.2.2.2.2.1,aF.2.2.2.2.2.2.2.2.2.2.2.2.2.2.2.1,aF.2.2.2.2.2.2.2.2.2.2.2.2.2.2.2.2.1,aF.2.2.2.2.2.2.2.2.2.2.2.2.2.2.2.2.2.1,())
def OW (d:N×cD×H):O (Kc×H):=
 match Ip (d.2.1,()) with
 |none=>none
 |some aa=>
  match ahv (0,aa.1,false,false,d.1,[],0,d.1,false,0,false,false,[],[],0,[],false,0,()) with
  |none=>none
  |some ah=>
   bif ah.1=0 then
    some ((ah.2.2.1,(ah.2.2.2.1,((ah.2.2.2.2.1,(ah.2.2.2.2.2.1,(ah.2.2.2.2.2.2.1,()))),(ah.2.2.2.2.2.2.2.1,(ah.2.2.2.2.2.2.2.2.1,(ah.2.2.2.2.2.2.2.2.2.1,())))))),())
   else
    bif ah.1=1 then
     some ((ah.2.2.2.2.2.2.2.2.2.2.1,(ah.2.2.2.2.2.2.2.2.2.2.2.1,((ah.2.2.2.2.2.2.2.2.2.2.2.2.1,(ah.2.2.2.2.2.2.2.2.2.2.2.2.2.1,(ah.2.2.2.2.2.2.2.2.2.2.2.2.2.2.1,()))),(ah.2.2.2.2.2.2.2.2.2.2.2.2.2.2.2.1,(ah.2.2.2.2.2.2.2.2.2.2.2.2.2.2.2.2.1,(ah.2.2.2.2.2.2.2.2.2.2.2.2.2.2.2.2.2.1,())))))),())
    else none
def yY (d:N×H):O (Bool×H):=
 some ((!decide ((d.1:N)=d.1)),())
def XJ (d:aK):O (Bool×H):=
 match yY (d.1,()) with
 |none=>none
 |some aa=>
  bif aa.1 then
   match yY (d.2.1,()) with
   |none=>none
   |some ah=>
    bif (!(!ah.1)) then
     some ((Op.bytesLess d.1 d.2.1),())
    else
     some (true,())
  else
   some ((Op.bytesLess d.1 d.2.1),())
def Td (d:N×H):O (Bool×H):=
 some ((!decide ((d.1:N)=d.1)),())
def ahe (d:UO):O (UO⊕((bo×N×Int×Int×H)⊕H)):=
 let t0:=decide (d.2.2.2.1<d.2.2.2.2.1)
 bif t0 then
  let t1:=i64.wrap (d.2.2.2.1+d.2.2.2.2.1)
  let t2:Int:=(Int.fdiv (IntKind.u64.wrap t1) (2^(min (Int.toNat 1) IntKind.u64.bits)))
  bif (0<=(i64.wrap t2)&&((i64.wrap t2):Int)<(d.1.length:Int)) then
   let t3:=(d.1.getD (Int.toNat (i64.wrap t2)) [])
   match XJ (t3,d.2.1,()) with
   |none=>none
   |some dE=>
    bif dE.1 then
     let t5:=i64.wrap ((i64.wrap t2)+1)
     some (.inl (d.1,d.2.1,d.2.2.1,t5,d.2.2.2.2.1,()))
    else
     some (.inl (d.1,d.2.1,d.2.2.1,d.2.2.2.1,(i64.wrap t2),()))
  else none
 else
  some (.inr (.inl (d.1,d.2.1,d.2.2.1,d.2.2.2.1,())))
def ahg:=b8 ahe
def ahH (d:bo×N×H):O At:=
 match ahg (d.1,d.2.1,((d.1.length):Int),0,((d.1.length):Int),()) with
 |none=>none
 |some (.inl z0)=>
  bif z0.2.2.2.1<z0.2.2.1 then
   bif 0<=z0.2.2.2.1&&z0.2.2.2.1<(z0.1.length:Int) then
    let t1:=(z0.1.getD (z0.2.2.2.1.toNat) [])
    bif (!(decide ((t1:N)=z0.2.1))) then
     bif 0<=z0.2.2.2.1&&z0.2.2.2.1<(z0.1.length:Int) then
      let t2:=(z0.1.getD (z0.2.2.2.1.toNat) [])
      match Td (t2,()) with
      |none=>none
      |some bV=>
       bif bV.1 then
        match Td (z0.2.1,()) with
        |none=>none
        |some dE=>
         some (z0.2.2.2.1,dE.1,())
       else
        some (z0.2.2.2.1,false,())
     else none
    else
     some (z0.2.2.2.1,true,())
   else none
  else
   some (z0.2.2.2.1,false,())
 |some (.inr z0)=>
  none
def acE (d:N×bo×H):O (Int×H):=
 match ahH (d.2.1,d.1,()) with
 |none=>none
 |some aa=>
  bif aa.2.1 then
   some ((i64.wrap (aa.1+1)),())
  else
   some (aa.1,())
def abo (d:Kc×cp×Bool×H):O (cp×Bool×H):=
 bif d.1.1 then
  some (d.1.2.2.1,d.1.2.1,())
 else
  bif !d.2.2.1 then
   some (([],([],(0,()))),false,())
  else
   bif d.1.2.2.2.2.1 then
    some ((d.1.2.2.1.1,(d.2.1.2.1,(d.1.2.2.2.2.2.1,()))),true,())
   else
    some ((d.1.2.2.1.1,(d.2.1.2.1,(d.2.1.2.2.1,()))),true,())
def abq (d:Up):O (Up⊕(Lp⊕H)):=
 match d9 (d.2.2.2.1.1,d.2.1,()) with
 |none=>none
 |some aa=>
  bif (!(aa.2.1=0)) then
   some (.inr (.inl (aa.2.1,d.2.2.1,([],([],(0,()))),false,0,())))
  else
   let t1:=i64.wrap (d.2.2.2.2.2.2.2.2.1+1)
   match tS (aa.1,()) with
   |none=>none
   |some aS=>
    bif aS.1 then
     match ab0 (aa.1.1,d.1,()) with
     |none=>none
     |some bV=>
      some (.inr (.inl (0,d.2.2.1,bV.1,bV.2.1,t1,())))
    else
     match OW (d.1,aa.1.2.2.2.2.1,()) with
     |none=>none
     |some bV=>
      bif bV.1.1 then
       some (.inr (.inl (0,(bV.1::d.2.2.1),([],([],(0,()))),false,t1,())))
      else
       match acE (bV.1.2.2.2.1,aa.1.2.1,()) with
       |none=>none
       |some dE=>
        bif 0<=dE.1&&dE.1<(aa.1.2.2.1.length:Int) then
         let t5:=(aa.1.2.2.1.getD (dE.1.toNat) 0)
         some (.inl (bV.1.2.2.2.1,t5,(bV.1::d.2.2.1),d.2.2.2.1,d.2.2.2.2.1,d.2.2.2.2.2.1,d.2.2.2.2.2.2.1,d.2.2.2.2.2.2.2.1,t1,()))
        else none
def abr:=b8 abq
def N5 (d:Lp):O (Lp⊕((Int×cp×Bool×Int×H)⊕H)):=
 bif (List.isEmpty d.2.1) then
  some (.inr (.inl (d.1,d.2.2.1,d.2.2.2.1,d.2.2.2.2.1,())))
 else
  match (List.head? d.2.1) with
  |none=>none
  |some EG=>
   let t1:=decide (d.2.2.2.2.1>0)
   bif t1 then
    match abo (EG,d.2.2.1,d.2.2.2.1,()) with
    |none=>none
    |some aS=>
     some (.inl (d.1,(List.tail d.2.1),aS.1,aS.2.1,d.2.2.2.2.1,()))
   else
    some (.inl (d.1,(List.tail d.2.1),d.2.2.1,d.2.2.2.1,d.2.2.2.2.1,()))
def N6:=b8 N5
def GY (d:c1×N×H):O qp:=
 match abr (d.2.1,d.1.2.1,[],d.1,[],[],0,false,0,()) with
 |none=>none
 |some (.inl z0)=>
  match N6 (z0.1,z0.2.1,z0.2.2.1,z0.2.2.2.1,z0.2.2.2.2.1,()) with
  |none=>none
  |some (.inl aF)=>
   some (aF.2.1,aF.2.2.1,aF.2.2.2.1,aF.1,())
  |some (.inr aF)=>
   none
 |some (.inr z0)=>
  none
def FU (d:bi):O (Bool×H):=
 bif d.2.1<=d.1 then
  some ((decide (d.1<=d.2.2.1)),())
 else
  some (false,())
def zS (d:bi×H):O (Bool×H):=
 match FU (d.1.1,2,64,()) with
 |none=>none
 |some aa=>
  bif aa.1 then
   match FU (d.1.2.1,2,16,()) with
   |none=>none
   |some ah=>
    bif ah.1 then
     match FU (d.1.2.2.1,1,64,()) with
     |none=>none
     |some aS=>
      some (aS.1,())
    else
     some (false,())
  else
   some (false,())
def Gn (d:iZ×H):O (Bool×H):=
 some ((!d.1.1),())
def xU (d:cb×Int×Int×H):O ((cb×Int×Int×H)⊕((Int×H)⊕H)):=
 bif d.2.2.1<d.2.1 then
  bif 0<=d.2.2.1&&d.2.2.1<(d.1.length:Int) then
   let t0:=(d.1.getD (d.2.2.1.toNat) (false,(false,(0,(([],([],([],([],([],()))))),())))))
   match Gn (t0,()) with
   |none=>none
   |some ah=>
    bif ah.1 then
     some (.inr (.inl (d.2.2.1,())))
    else
     some (.inl (d.1,d.2.1,(i64.wrap (d.2.2.1+1)),()))
  else none
 else
  some (.inr (.inr (())))
def QT:=b8 xU
def Ck (d:bF):O (Int×H):=
 match QT (d.1,((d.1.length):Int),0,()) with
 |none=>none
 |some (.inl z0)=>
  some (z0.1,())
 |some (.inr z0)=>
  some ((-1:Int),())
def AS (d:bF×H):O bF:=
 bif (0<=((d.1.1.length):Int)&&(((d.1.1.length):Int):Int)<=((d.1.1.length):Int)&&((d.1.1.length):Int)*136<=(bC:Int)) then
  let t0:=(List.take (List.length (List.replicate (Int.toNat ((d.1.1.length):Int)) (false,(false,((0:Int),((([]:ak),(([]:bo),(([]:cC),(([]:hz),(([]:cD),()))))),())))))) d.1.1)
  let t1:=(List.take 0 (List.replicate (Int.toNat ((d.1.1.length):Int)) (false,(false,((0:Int),((([]:ak),(([]:bo),(([]:cC),(([]:hz),(([]:cD),()))))),())))))++t0++List.drop (0+t0.length) (List.replicate (Int.toNat ((d.1.1.length):Int)) (false,(false,((0:Int),((([]:ak),(([]:bo),(([]:cC),(([]:hz),(([]:cD),()))))),()))))))
  some (t1,())
 else none
def EJ (d:UR):O (UR⊕((Int×Int×bF×H)⊕(bF×cz×cb×H))):=
 bif d.2.2.1<d.2.1 then
  bif 0<=d.2.2.1&&d.2.2.1<(d.1.length:Int) then
   let t0:=(d.1.getD (d.2.2.1.toNat) 0)
   match oP (d.2.2.2.1,t0,()) with
   |none=>none
   |some ah=>
    bif !ah.1 then
     some (.inr (.inl (0,110,d.2.2.2.1,())))
    else
     some (.inl (d.1,d.2.1,(i64.wrap (d.2.2.1+1)),d.2.2.2.1,d.2.2.2.2.1,d.2.2.2.2.2.1,()))
  else none
 else
  some (.inr (.inr (d.2.2.2.1,d.2.2.2.2.1,d.2.2.2.2.2.1,())))
def Oc:=b8 EJ
def EK (d:US):O (US⊕((Int×cb×cb×H)⊕H)):=
 bif d.2.2.2.1<d.2.2.1 then
  bif 0<=d.2.2.2.1&&d.2.2.2.1<(d.2.1.length:Int) then
   let t0:=(d.2.1.getD (d.2.2.2.1.toNat) 0)
   bif 0<=t0&&t0<(d.2.2.2.2.2.1.length:Int) then
    let t1:=(d.2.2.2.2.2.1.getD (t0.toNat) (false,(false,(0,(([],([],([],([],([],()))))),())))))
    let t2:=i64.wrap (t1.2.2.1+1)
    bif 0<=t0&&t0<(d.2.2.2.2.2.1.length:Int) then
     let t3:=(List.set d.2.2.2.2.2.1 (t0.toNat) ((d.2.2.2.2.2.1.getD (t0.toNat) (false,(false,(0,(([],([],([],([],([],()))))),()))))).1,((d.2.2.2.2.2.1.getD (t0.toNat) (false,(false,(0,(([],([],([],([],([],()))))),()))))).2.1,(t2,(d.2.2.2.2.2.1.getD (t0.toNat) (false,(false,(0,(([],([],([],([],([],()))))),()))))).2.2.2))))
     let t4:=i64.wrap (d.2.2.2.1+1)
     some (.inl (d.1,d.2.1,d.2.2.1,t4,d.2.2.2.2.1,t3,()))
    else none
   else none
  else none
 else
  some (.inr (.inl (d.1,d.2.2.2.2.1,d.2.2.2.2.2.1,())))
def aig:=b8 EK
def F4 (d:Int×cz×cb×cb×H):O qh:=
 bif 0<=d.1&&d.1<(d.2.2.2.1.length:Int) then
  let t0:=(List.set d.2.2.2.1 (d.1.toNat) (true,(false,(1,(d.2.1,())))))
  match aig (d.1,d.2.1.2.2.1,((d.2.1.2.2.1.length):Int),0,d.2.2.1,t0,()) with
  |none=>none
  |some (.inl aF)=>
   some ((aF.2.2.1,()),aF.1,0,())
  |some (.inr aF)=>
   none
 else none
def acl (d:Int×bF×cz×cb×H):O qh:=
 bif d.1>=4096 then
  some (d.2.1,0,111,())
 else
  match AS (d.2.1,()) with
  |none=>none
  |some aa=>
   let t1:=(decide (d.1=((aa.1.length):Int)))
   bif t1 then
    bif ((aa.1.length+List.length ([(false,(false,(0,(([],([],([],([],([],()))))),()))))]:cb))*136<=bC) then
     let t2:cb:=(aa.1++([(false,(false,(0,(([],([],([],([],([],()))))),()))))]:cb))
     F4 (d.1,d.2.2.1,d.2.2.2.1,t2,())
    else none
   else
    F4 (d.1,d.2.2.1,d.2.2.2.1,aa.1,())
def kR (d:bF×cz×H):O qh:=
 match Oc (d.2.1.2.2.1,((d.2.1.2.2.1.length):Int),0,d.1,d.2.1,[],()) with
 |none=>none
 |some (.inl z0)=>
  some (z0.2.2.1,z0.1,z0.2.1,())
 |some (.inr z0)=>
  match Ck (z0.1.1,()) with
  |none=>none
  |some ah=>
   bif ah.1<0 then
    acl (((z0.1.1.length):Int),z0.1,z0.2.1,z0.2.2.1,())
   else
    acl (ah.1,z0.1,z0.2.1,z0.2.2.1,())
def Pr (d:bi×H):O (c1×Int×H):=
 match zS (d.1,()) with
 |none=>none
 |some aa=>
  bif !aa.1 then
   some ((([],()),(0,((0,(0,(0,()))),()))),120,())
  else
   match kR (([],()),([],([],([],([],([],()))))),()) with
   |none=>none
   |some ah=>
    some ((ah.1,(ah.2.1,(d.1,()))),ah.2.2.1,())
def xd (d:Int×H):O (N×H):=
 let t0:=(decide (((Int.tmod d.1 24):Int)<20))
 bif t0 then
  let t1:=(IntKind.u8.wrap (Int.tdiv (Int.tmod d.1 24) 5))
  bif (0<=t1&&t1<(List.length ([([97,47]:N),([98,47]:N),([97,47,98,47]:N),([99,47]:N)]:bo):Int)) then
   let t2:=(List.getD ([([97,47]:N),([98,47]:N),([97,47,98,47]:N),([99,47]:N)]:bo) (t1.toNat) [])
   let t3:Int:=(Int.tmod (Int.tmod d.1 24) 5)
   bif (0<=t3&&t3<(List.length ([([1]:N),([2,0,0]:N),([2,0,1]:N),([2,0,2]:N),([3,120]:N)]:bo):Int)) then
    let t4:=(List.getD ([([1]:N),([2,0,0]:N),([2,0,1]:N),([2,0,2]:N),([3,120]:N)]:bo) (t3.toNat) [])
    bif t2.length+t4.length<=bC then
     some ((t2++t4),())
    else none
   else none
  else none
 else
  let t1:=(IntKind.u8.wrap ((Int.tmod d.1 24)-20))
  bif (0<=t1&&t1<(List.length ([([1]:N),([5,48,48,48,48,48,48,48,49,47,1]:N),([6,97,47,1]:N),([97,47,98,47,99,47,1]:N)]:bo):Int)) then
   let t2:=(List.getD ([([1]:N),([5,48,48,48,48,48,48,48,49,47,1]:N),([6,97,47,1]:N),([97,47,98,47,99,47,1]:N)]:bo) (t1.toNat) [])
   some (t2,())
  else none
def Gs (d:bi×H):O (cp×H):=
 match xd (d.1.1,()) with
 |none=>none
 |some aa=>
  bif (0<=(Int.tmod d.1.2.1 4)&&((Int.tmod d.1.2.1 4):Int)<(List.length ([[],([118]:N),([119,120]:N),([120,121,122]:N)]:bo):Int)) then
   let t1:=(List.getD ([[],([118]:N),([119,120]:N),([120,121,122]:N)]:bo) (Int.toNat (Int.tmod d.1.2.1 4)) [])
   let t2:=i64.wrap (Int.tmod d.1.2.2.1 4)
   some ((aa.1,(t1,(t2,()))),())
  else none
def T4 (d:pL):O (pL⊕((Bool×cp×ak×H)⊕H)):=
 bif 0<=d.2.2.1&&d.2.2.1<(d.1.length:Int) then
  let t0:=(d.1.getD (d.2.2.1.toNat) ([],([],(0,()))))
  let t1:=(!decide ((t0.1:N)=d.2.2.2.1.1))
  bif t1 then
   bif 0<=d.2.2.1&&d.2.2.1<(d.1.length:Int) then
    let t2:=(d.1.getD (d.2.2.1.toNat) ([],([],(0,()))))
    bif ((d.2.2.2.2.1.length+List.length ([t2]:ak))*40<=bC) then
     let t3:ak:=(d.2.2.2.2.1++([t2]:ak))
     some (.inl (d.1,d.2.1,(i64.wrap (d.2.2.1+1)),d.2.2.2.1,t3,()))
    else none
   else none
  else
   some (.inl (d.1,d.2.1,(i64.wrap (d.2.2.1+1)),d.2.2.2.1,d.2.2.2.2.1,()))
 else none
def T5 (d:UX):O (pL⊕((Bool×cp×ak×H)⊕H)):=
 bif d.2.2.2.1 then
  bif ((d.2.2.2.2.2.1.length+List.length ([d.2.2.2.2.1]:ak))*40<=bC) then
   let t0:ak:=(d.2.2.2.2.2.1++([d.2.2.2.2.1]:ak))
   T4 (d.1,true,d.2.2.1,d.2.2.2.2.1,t0,())
  else none
 else
  T4 (d.1,d.2.1,d.2.2.1,d.2.2.2.2.1,d.2.2.2.2.2.1,())
def Et (d:pL):O (pL⊕((Bool×cp×ak×H)⊕H)):=
 let t0:=(decide (d.2.2.1<((d.1.length):Int)))
 bif t0 then
  bif !d.2.1 then
   bif 0<=d.2.2.1&&d.2.2.1<(d.1.length:Int) then
    let t1:=(d.1.getD (d.2.2.1.toNat) ([],([],(0,()))))
    T5 (d.1,d.2.1,d.2.2.1,(!(Op.bytesLess t1.1 d.2.2.2.1.1)),d.2.2.2.1,d.2.2.2.2.1,())
   else none
  else
   T5 (d.1,d.2.1,d.2.2.1,false,d.2.2.2.1,d.2.2.2.2.1,())
 else
  some (.inr (.inl (d.2.1,d.2.2.2.1,d.2.2.2.2.1,())))
def NL:=b8 Et
def GG (d:ak×cp×H):O (ak×H):=
 match NL (d.1,false,0,d.2.1,[],()) with
 |none=>none
 |some (.inl z0)=>
  bif !z0.1 then
   bif ((z0.2.2.1.length+List.length ([z0.2.1]:ak))*40<=bC) then
    let t1:ak:=(z0.2.2.1++([z0.2.1]:ak))
    some (t1,())
   else none
  else
   some (z0.2.2.1,())
 |some (.inr z0)=>
  none
def Dy (d:l6×Int×Bool×ak×H):O (Lt⊕((ak×H)⊕H)):=
 bif d.2.2.1 then
  bif 0<=d.2.1&&d.2.1<(d.1.length:Int) then
   let t0:=(d.1.getD (d.2.1.toNat) (0,(0,(0,()))))
   match Gs (t0,()) with
   |none=>none
   |some ah=>
    match GG (d.2.2.2.1,ah.1,()) with
    |none=>none
    |some aS=>
     some (.inl (d.1,(i64.wrap (d.2.1+1)),aS.1,()))
  else none
 else
  some (.inr (.inl (d.2.2.2.1,())))
def zp (d:Lt):O (Lt⊕((ak×H)⊕H)):=
 let t0:=(decide (d.2.1<((d.1.length):Int)))
 bif t0 then
  Dy (d.1,d.2.1,(decide (d.2.1<40)),d.2.2.1,())
 else
  Dy (d.1,d.2.1,false,d.2.2.1,())
def KJ:=b8 zp
def AM (d:l6×H):O (ak×H):=
 match KJ (d.1,0,[],()) with
 |none=>none
 |some (.inl z0)=>
  some (z0.1,())
 |some (.inr z0)=>
  none
def xf (d:fq):O (cz×Int×H):=
 match zP (d.1,d.2.1,()) with
 |none=>none
 |some aa=>
  bif !aa.1 then
   some (([],([],([],([],([],()))))),110,())
  else
   bif 0<=d.2.1&&d.2.1<(d.1.1.length:Int) then
    let t1:=(d.1.1.getD (d.2.1.toNat) (false,(false,(0,(([],([],([],([],([],()))))),())))))
    bif t1.2.1 then
     some (([],([],([],([],([],()))))),112,())
    else
     bif 0<=d.2.1&&d.2.1<(d.1.1.length:Int) then
      let t2:=(d.1.1.getD (d.2.1.toNat) (false,(false,(0,(([],([],([],([],([],()))))),())))))
      some (t2.2.2.2.1,0,())
     else none
   else none
def qo (d:Int×H):O (N×H):=
 bif (0<=(Int.tmod d.1 5)&&((Int.tmod d.1 5):Int)<(List.length ([([97,47]:N),([98,47]:N),([97,47,98,47]:N),([99,47]:N),([100,47]:N)]:bo):Int)) then
  let t0:=(List.getD ([([97,47]:N),([98,47]:N),([97,47,98,47]:N),([99,47]:N),([100,47]:N)]:bo) (Int.toNat (Int.tmod d.1 5)) [])
  some (t0,())
 else none
def xe (d:Int×H):O (N×H):=
 match qo ((Int.tmod d.1 4),()) with
 |none=>none
 |some aa=>
  let t1:=(IntKind.u8.wrap (Int.tdiv d.1 4))
  bif (0<=(Int.tmod t1 5)&&((Int.tmod t1 5):Int)<(List.length ([([1]:N),([2,0,0]:N),([2,0,1]:N),([2,0,2]:N),([3,120]:N)]:bo):Int)) then
   let t2:=(List.getD ([([1]:N),([2,0,0]:N),([2,0,1]:N),([2,0,2]:N),([3,120]:N)]:bo) (Int.toNat (Int.tmod t1 5)) [])
   bif aa.1.length+t2.length<=bC then
    some ((aa.1++t2),())
   else none
  else none
def Xk (d:Lv):O (Lv⊕(Lv⊕H)):=
 bif d.2.1>0 then
  bif (0<=(i64.wrap (d.2.1-1))&&((i64.wrap (d.2.1-1)):Int)<(d.1.length:Int)) then
   let t0:Int:=((d.1.getD (Int.toNat (i64.wrap (d.2.1-1))) 0).toNat:Int)
   bif t0=255 then
    some (.inl (d.1,(i64.wrap (d.2.1-1)),d.2.2.1,d.2.2.2.1,()))
   else
    some (.inr (.inl (d.1,d.2.1,d.2.2.1,d.2.2.2.1,())))
  else none
 else
  some (.inr (.inl (d.1,d.2.1,d.2.2.1,d.2.2.2.1,())))
def Xm:=b8 Xk
def nX (d:N×H):O (aK×H):=
 match Xm (d.1,((d.1.length):Int),[],[],()) with
 |none=>none
 |some (.inl z0)=>
  bif z0.2.1=0 then
   some ((z0.1,([],())),())
  else
   bif ((0:Int)<=(i64.wrap (z0.2.1-1))&&((i64.wrap (z0.2.1-1)):Int)<=(z0.1.length:Int)) then
    let t1:=(List.drop 0 (List.take (Int.toNat (i64.wrap (z0.2.1-1))) z0.1))
    bif (0<=(i64.wrap (z0.2.1-1))&&((i64.wrap (z0.2.1-1)):Int)<(z0.1.length:Int)) then
     let t2:Int:=((z0.1.getD (Int.toNat (i64.wrap (z0.2.1-1))) 0).toNat:Int)
     let t3:N:=(qv ([(IntKind.u8.wrap (t2+1))]:cC))
     bif t1.length+t3.length<=bC then
      some ((z0.1,((t1++t3),())),())
     else none
    else none
   else none
 |some (.inr z0)=>
  none
def rF (d:aK):O (Bool×H):=
 let t0:=(decide ((((d.1.length):Int):Int)>=((d.2.1.length):Int)))
 bif t0 then
  bif ((0:Int)<=((d.2.1.length):Int)&&(((d.2.1.length):Int):Int)<=(d.1.length:Int)) then
   let t1:=(List.drop 0 (List.take (Int.toNat ((d.2.1.length):Int)) d.1))
   some ((decide ((t1:N)=d.2.1)),())
  else none
 else
  some (false,())
def wq (d:Int×H):O (N×H):=
 bif (0<=(Int.tmod d.1 5)&&((Int.tmod d.1 5):Int)<(List.length ([[],([120]:N),([121,121]:N),([49,50,51,52,53,54,55,56,57,48]:N),([0,255]:N)]:bo):Int)) then
  let t0:=(List.getD ([[],([120]:N),([121,121]:N),([49,50,51,52,53,54,55,56,57,48]:N),([0,255]:N)]:bo) (Int.toNat (Int.tmod d.1 5)) [])
  some (t0,())
 else none
def oO (d:N×H):O (aK×H):=
 bif d.1.length+List.length ([0]:N)<=bC then
  some ((d.1,((d.1++([0]:N)),())),())
 else none
def sY (d:N×N×N×Bool×pM×Int×N×N×N×N×N×N×Int×aK×H):O (Ul⊕H):=
 bif d.2.2.2.1 then
  let t0:=decide ((d.2.1:N)=([100,47]:N))
  bif t0 then
   some (.inl (d.1,d.2.1,([99,47]:N),d.2.2.2.2.1,d.2.2.2.2.2.1,d.2.2.2.2.2.2.1,d.2.2.2.2.2.2.2.1,d.2.2.2.2.2.2.2.2.1,d.2.2.2.2.2.2.2.2.2.1,d.2.2.2.2.2.2.2.2.2.2.1,d.2.2.2.2.2.2.2.2.2.2.2.1,d.2.2.2.2.2.2.2.2.2.2.2.2.1,d.2.2.2.2.2.2.2.2.2.2.2.2.2.1,()))
  else
   some (.inl (d.1,d.2.1,([100,47]:N),d.2.2.2.2.1,d.2.2.2.2.2.1,d.2.2.2.2.2.2.1,d.2.2.2.2.2.2.2.1,d.2.2.2.2.2.2.2.2.1,d.2.2.2.2.2.2.2.2.2.1,d.2.2.2.2.2.2.2.2.2.2.1,d.2.2.2.2.2.2.2.2.2.2.2.1,d.2.2.2.2.2.2.2.2.2.2.2.2.1,d.2.2.2.2.2.2.2.2.2.2.2.2.2.1,()))
 else
  some (.inl (d.1,d.2.1,d.2.2.1,d.2.2.2.2.1,d.2.2.2.2.2.1,d.2.2.2.2.2.2.1,d.2.2.2.2.2.2.2.1,d.2.2.2.2.2.2.2.2.1,d.2.2.2.2.2.2.2.2.2.1,d.2.2.2.2.2.2.2.2.2.2.1,d.2.2.2.2.2.2.2.2.2.2.2.1,d.2.2.2.2.2.2.2.2.2.2.2.2.1,d.2.2.2.2.2.2.2.2.2.2.2.2.2.1,()))
def rz (d:Ul):O (bE⊕H):=
 let t0:Int:=(Int.tmod d.2.2.2.1.2.2.2.2.2.1 8)
 let t1:=(decide (((Int.tmod d.2.2.2.1.1 6):Int)=0))
 bif t1 then
  match wq (d.2.2.2.1.2.2.1,()) with
  |none=>none
  |some aS=>
   some (.inl (1,d.1,aS.1,([],([],())),[],[],(i64.wrap t0),()))
 else
  let t2:=(decide (((Int.tmod d.2.2.2.1.1 6):Int)=1))
  bif t2 then
   some (.inl (2,d.1,[],([],([],())),[],[],0,()))
  else
   let t3:=(decide (((Int.tmod d.2.2.2.1.1 6):Int)=2))
   bif t3 then
    some (.inl (3,[],[],d.2.2.2.2.2.2.2.2.2.2.2.2.1,[],[],0,()))
   else
    let t4:=(decide (((Int.tmod d.2.2.2.1.1 6):Int)=3))
    bif t4 then
     some (.inl (4,[],[],([],([],())),d.2.1,d.2.2.1,0,()))
    else
     let t5:=(decide (((Int.tmod d.2.2.2.1.1 6):Int)=4))
     bif t5 then
      some (.inl (5,[],[],([],([],())),d.2.1,d.2.2.1,0,()))
     else
      some (.inl (6,[],[],d.2.2.2.2.2.2.2.2.2.2.2.2.1,[],[],(i64.wrap t0),()))
def nC (d:N×pM×Int×N×N×N×N×N×N×Int×aK×H):O (bE⊕H):=
 match qo (d.2.1.2.1,()) with
 |none=>none
 |some aa=>
  match qo (d.2.1.2.2.2.1,()) with
  |none=>none
  |some ah=>
   match rF (aa.1,ah.1,()) with
   |none=>none
   |some aS=>
    bif !aS.1 then
     match rF (ah.1,aa.1,()) with
     |none=>none
     |some bV=>
      match sY (d.1,aa.1,ah.1,bV.1,d.2.1,d.2.2.1,d.2.2.2.1,d.2.2.2.2.1,d.2.2.2.2.2.1,d.2.2.2.2.2.2.1,d.2.2.2.2.2.2.2.1,d.2.2.2.2.2.2.2.2.1,d.2.2.2.2.2.2.2.2.2.1,d.2.2.2.2.2.2.2.2.2.2.1,()) with
      |none=>none
      |some (.inl z4)=>
       match rz (z4.1,z4.2.1,z4.2.2.1,z4.2.2.2.1,z4.2.2.2.2.1,z4.2.2.2.2.2.1,z4.2.2.2.2.2.2.1,z4.2.2.2.2.2.2.2.1,z4.2.2.2.2.2.2.2.2.1,z4.2.2.2.2.2.2.2.2.2.1,z4.2.2.2.2.2.2.2.2.2.2.1,z4.2.2.2.2.2.2.2.2.2.2.2.1,z4.2.2.2.2.2.2.2.2.2.2.2.2.1,()) with
       |none=>none
       |some (.inl z5)=>
        some (.inl (z5.1,z5.2.1,z5.2.2.1,z5.2.2.2.1,z5.2.2.2.2.1,z5.2.2.2.2.2.1,z5.2.2.2.2.2.2.1,()))
       |some (.inr z5)=>
        none
      |some (.inr z4)=>
       none
    else
     match sY (d.1,aa.1,ah.1,true,d.2.1,d.2.2.1,d.2.2.2.1,d.2.2.2.2.1,d.2.2.2.2.2.1,d.2.2.2.2.2.2.1,d.2.2.2.2.2.2.2.1,d.2.2.2.2.2.2.2.2.1,d.2.2.2.2.2.2.2.2.2.1,d.2.2.2.2.2.2.2.2.2.2.1,()) with
     |none=>none
     |some (.inl z3)=>
      match rz (z3.1,z3.2.1,z3.2.2.1,z3.2.2.2.1,z3.2.2.2.2.1,z3.2.2.2.2.2.1,z3.2.2.2.2.2.2.1,z3.2.2.2.2.2.2.2.1,z3.2.2.2.2.2.2.2.2.1,z3.2.2.2.2.2.2.2.2.2.1,z3.2.2.2.2.2.2.2.2.2.2.1,z3.2.2.2.2.2.2.2.2.2.2.2.1,z3.2.2.2.2.2.2.2.2.2.2.2.2.1,()) with
      |none=>none
      |some (.inl z4)=>
       some (.inl (z4.1,z4.2.1,z4.2.2.1,z4.2.2.2.1,z4.2.2.2.2.1,z4.2.2.2.2.2.1,z4.2.2.2.2.2.2.1,()))
      |some (.inr z4)=>
       none
     |some (.inr z3)=>
      none
def zN (d:pM×H):O (bE×H):=
 match xe (d.1.2.1,()) with
 |none=>none
 |some aa=>
  match xe (d.1.2.2.2.1,()) with
  |none=>none
  |some ah=>
   let t2:N:=(bif (Op.bytesLess aa.1 ah.1||decide ((aa.1:N)=ah.1)) then aa.1 else ah.1)
   let t3:N:=(bif !(Op.bytesLess aa.1 ah.1) then aa.1 else ah.1)
   let t4:=(decide (((Int.tmod d.1.2.2.2.2.1 4):Int)=0))
   bif t4 then
    match qo (d.1.2.1,()) with
    |none=>none
    |some gj=>
     match nX (gj.1,()) with
     |none=>none
     |some iS=>
      match nC (aa.1,d.1,0,[],[],[],[],[],[],0,iS.1,()) with
      |none=>none
      |some (.inl gk)=>
       some ((gk.1,(gk.2.1,(gk.2.2.1,(gk.2.2.2.1,(gk.2.2.2.2.1,(gk.2.2.2.2.2.1,(gk.2.2.2.2.2.2.1,()))))))),())
      |some (.inr gk)=>
       none
   else
    let t5:=(decide (((Int.tmod d.1.2.2.2.2.1 16):Int)=1))
    bif t5 then
     match nC (aa.1,d.1,0,[],[],[],[],[],[],0,(aa.1,([],())),()) with
     |none=>none
     |some (.inl kX)=>
      some ((kX.1,(kX.2.1,(kX.2.2.1,(kX.2.2.2.1,(kX.2.2.2.2.1,(kX.2.2.2.2.2.1,(kX.2.2.2.2.2.2.1,()))))))),())
     |some (.inr kX)=>
      none
    else
     let t6:=(decide (((Int.tmod d.1.2.2.2.2.1 16):Int)=5))
     bif t6 then
      match nC (aa.1,d.1,0,[],[],[],[],[],[],0,([],([],())),()) with
      |none=>none
      |some (.inl gk)=>
       some ((gk.1,(gk.2.1,(gk.2.2.1,(gk.2.2.2.1,(gk.2.2.2.2.1,(gk.2.2.2.2.2.1,(gk.2.2.2.2.2.2.1,()))))))),())
      |some (.inr gk)=>
       none
     else
      bif (aa.1:N)=ah.1 then
       match oO (aa.1,()) with
       |none=>none
       |some S5=>
        match nC (aa.1,d.1,0,[],[],[],[],[],[],0,S5.1,()) with
        |none=>none
        |some (.inl ob)=>
         some ((ob.1,(ob.2.1,(ob.2.2.1,(ob.2.2.2.1,(ob.2.2.2.2.1,(ob.2.2.2.2.2.1,(ob.2.2.2.2.2.2.1,()))))))),())
        |some (.inr ob)=>
         none
      else
       match nC (aa.1,d.1,0,[],[],[],[],[],[],0,(t2,(t3,())),()) with
       |none=>none
       |some (.inl gk)=>
        some ((gk.1,(gk.2.1,(gk.2.2.1,(gk.2.2.2.1,(gk.2.2.2.2.1,(gk.2.2.2.2.2.1,(gk.2.2.2.2.2.2.1,()))))))),())
       |some (.inr gk)=>
        none
def Dz (d:(List pM)×Int×Int×Bool×cD×H):O (Lf⊕((cD×H)⊕H)):=
 bif d.2.2.2.1 then
  bif 0<=d.2.2.1&&d.2.2.1<(d.1.length:Int) then
   let t0:=(d.1.getD (d.2.2.1.toNat) (0,(0,(0,(0,(0,(0,())))))))
   match zN (t0,()) with
   |none=>none
   |some ah=>
    bif ((d.2.2.2.2.1.length+List.length ([ah.1]:cD))*112<=bC) then
     let t2:cD:=(d.2.2.2.2.1++([ah.1]:cD))
     some (.inl (d.1,d.2.1,(i64.wrap (d.2.2.1+1)),t2,()))
    else none
  else none
 else
  some (.inr (.inl (d.2.2.2.2.1,())))
def zq (d:Lf):O (Lf⊕((cD×H)⊕H)):=
 let t0:=(decide (d.2.2.1<((d.1.length):Int)))
 bif t0 then
  Dz (d.1,d.2.1,d.2.2.1,(decide (d.2.2.1<d.2.1)),d.2.2.2.1,())
 else
  Dz (d.1,d.2.1,d.2.2.1,false,d.2.2.2.1,())
def M1:=b8 zq
def zM (d:(List pM)×Int×H):O (cD×H):=
 match M1 (d.1,d.2.1,0,[],()) with
 |none=>none
 |some (.inl z0)=>
  some (z0.1,())
 |some (.inr z0)=>
  none
def rA (d:Int×Bool×bE×H):O (aw×H):=
 bif d.2.1 then
  match nX (d.2.2.1.2.2.2.2.1,()) with
  |none=>none
  |some aa=>
   some (([aa.1]:aw),())
 else
  bif d.1=6 then
   some (([d.2.2.1.2.2.2.1]:aw),())
  else
   some ([],())
def nP (d:bE×H):O (aw×H):=
 bif d.1.1=4 then
  rA (d.1.1,true,d.1,())
 else
  rA (d.1.1,(decide (d.1.1=5)),d.1,())
def ou (d:Int×Bool×bE×H):O (aw×H):=
 bif d.2.1 then
  match oO (d.2.2.1.2.1,()) with
  |none=>none
  |some aa=>
   some (([aa.1]:aw),())
 else
  bif d.1=4 then
   match nX (d.2.2.1.2.2.2.2.1,()) with
   |none=>none
   |some aa=>
    match nX (d.2.2.1.2.2.2.2.2.1,()) with
    |none=>none
    |some ah=>
     some (([aa.1,ah.1]:aw),())
  else
   bif d.1=5 then
    match nX (d.2.2.1.2.2.2.2.2.1,()) with
    |none=>none
    |some aa=>
     some (([aa.1]:aw),())
   else
    some (([d.2.2.1.2.2.2.1]:aw),())
def lJ (d:bE×H):O (aw×H):=
 bif d.1.1=1 then
  ou (d.1.1,true,d.1,())
 else
  ou (d.1.1,(decide (d.1.1=2)),d.1,())
def mh (d:uz):O (Bool×H):=
 match lK (d.2.1,()) with
 |none=>none
 |some aa=>
  bif !aa.1 then
   match lK (d.1,()) with
   |none=>none
   |some ah=>
    bif !ah.1 then
     let t2:=(Op.bytesLess d.1.1 d.2.1.1||decide ((d.1.1:N)=d.2.1.1))
     bif t2 then
      match qn (d.1.2.1,d.2.1.2.1,()) with
      |none=>none
      |some bV=>
       some ((!bV.1),())
     else
      some (false,())
    else
     some (false,())
  else
   some (true,())
def pr (d:Int×aK×aw×H):O ((Int×aK×aw×H)⊕((Bool×H)⊕H)):=
 let t0:=(decide (d.1<((d.2.2.1.length):Int)))
 bif t0 then
  bif 0<=d.1&&d.1<(d.2.2.1.length:Int) then
   let t1:=(d.2.2.1.getD (d.1.toNat) ([],([],())))
   match mh (d.2.1,t1,()) with
   |none=>none
   |some aS=>
    bif !aS.1 then
     some (.inr (.inl (false,())))
    else
     some (.inl ((i64.wrap (d.1+1)),d.2.1,d.2.2.1,()))
  else none
 else
  some (.inr (.inr (())))
def Ei:=b8 pr
def jN (d:bE×aK×H):O (Bool×H):=
 match nP (d.1,()) with
 |none=>none
 |some aa=>
  bif ((List.length ([]:aw)+aa.1.length)*32<=bC) then
   let t1:aw:=([]++aa.1)
   match lJ (d.1,()) with
   |none=>none
   |some aS=>
    bif (t1.length+aS.1.length)*32<=bC then
     match Ei (0,d.2.1,(t1++aS.1),()) with
     |none=>none
     |some (.inl z3)=>
      some (z3.1,())
     |some (.inr z3)=>
      some (true,())
    else none
  else none
def yI (d:Int×Int×Bool×aK×cD×cD×H):O (Lo⊕((cD×H)⊕H)):=
 bif d.2.2.1 then
  bif 0<=d.2.1&&d.2.1<(d.2.2.2.2.2.1.length:Int) then
   let t0:=(d.2.2.2.2.2.1.getD (d.2.1.toNat) (0,([],([],(([],([],())),([],([],(0,()))))))))
   match jN (t0,d.2.2.2.1,()) with
   |none=>none
   |some ah=>
    bif ah.1 then
     bif 0<=d.2.1&&d.2.1<(d.2.2.2.2.2.1.length:Int) then
      let t2:=(d.2.2.2.2.2.1.getD (d.2.1.toNat) (0,([],([],(([],([],())),([],([],(0,()))))))))
      bif ((d.2.2.2.2.1.length+List.length ([t2]:cD))*112<=bC) then
       let t3:cD:=(d.2.2.2.2.1++([t2]:cD))
       some (.inl (d.1,(i64.wrap (d.2.1+1)),d.2.2.2.1,t3,d.2.2.2.2.2.1,()))
      else none
     else none
    else
     some (.inl (d.1,(i64.wrap (d.2.1+1)),d.2.2.2.1,d.2.2.2.2.1,d.2.2.2.2.2.1,()))
  else none
 else
  some (.inr (.inl (d.2.2.2.2.1,())))
def kw (d:Lo):O (Lo⊕((cD×H)⊕H)):=
 let t0:=(decide (d.2.1<((d.2.2.2.2.1.length):Int)))
 bif t0 then
  let t1:=(decide ((((d.2.2.2.1.length):Int):Int)<d.1))
  yI (d.1,d.2.1,t1,d.2.2.1,d.2.2.2.1,d.2.2.2.2.1,())
 else
  yI (d.1,d.2.1,false,d.2.2.1,d.2.2.2.1,d.2.2.2.2.1,())
def TB:=b8 kw
def wc (d:(List pM)×aK×Int×H):O (cD×H):=
 match zM (d.1,(i64.wrap (3*d.2.2.1)),()) with
 |none=>none
 |some aa=>
  match TB (d.2.2.1,0,d.2.1,[],aa.1,()) with
  |none=>none
  |some (.inl aF)=>
   some (aF.1,())
  |some (.inr aF)=>
   none
def Tu (dy:mP->O (fq×H)) (d:ak×(List bo)×Int×N×Bool×bF×aK×fh×cb×Int×bo×H):O (Fi⊕(Fj⊕H)):=
 bif d.2.2.2.2.1 then
  bif ((d.2.2.2.2.2.2.2.2.2.2.1.length+List.length ([d.2.2.2.1]:bo))*16<=bC) then
   let t0:bo:=(d.2.2.2.2.2.2.2.2.2.2.1++([d.2.2.2.1]:bo))
   some (.inl (d.1,d.2.1,(i64.wrap (d.2.2.1+1)),d.2.2.2.2.2.1,d.2.2.2.2.2.2.1,d.2.2.2.2.2.2.2.1,d.2.2.2.2.2.2.2.2.1,d.2.2.2.2.2.2.2.2.2.1,t0,()))
  else none
 else
  some (.inl (d.1,d.2.1,(i64.wrap (d.2.2.1+1)),d.2.2.2.2.2.1,d.2.2.2.2.2.2.1,d.2.2.2.2.2.2.2.1,d.2.2.2.2.2.2.2.2.1,d.2.2.2.2.2.2.2.2.2.1,d.2.2.2.2.2.2.2.2.2.2.1,()))
def ze (dy:mP->O (fq×H)) (d:Fi):O (Fi⊕(Fj⊕H)):=
 bif (0:Int)<(d.2.1.length:Int) then
  let t0:=(d.2.1.getD 0 [])
  let t1:=(decide (d.2.2.1<((t0.length):Int)))
  bif t1 then
   bif (0:Int)<(d.2.1.length:Int) then
    let t2:=(d.2.1.getD 0 [])
    bif 0<=d.2.2.1&&d.2.2.1<(t2.length:Int) then
     let t3:=(t2.getD (d.2.2.1.toNat) [])
     let t4:=(!(Op.bytesLess t3 d.2.2.2.2.1.1||decide ((t3:N)=d.2.2.2.2.1.1)))
     bif t4 then
      match A1 (d.2.2.2.2.1,t3,()) with
      |none=>none
      |some gj=>
       Tu dy (d.1,d.2.1,d.2.2.1,t3,gj.1,d.2.2.2.1,d.2.2.2.2.1,d.2.2.2.2.2.1,d.2.2.2.2.2.2.1,d.2.2.2.2.2.2.2.1,d.2.2.2.2.2.2.2.2.1,())
     else
      Tu dy (d.1,d.2.1,d.2.2.1,t3,false,d.2.2.2.1,d.2.2.2.2.1,d.2.2.2.2.2.1,d.2.2.2.2.2.2.1,d.2.2.2.2.2.2.2.1,d.2.2.2.2.2.2.2.2.1,())
    else none
   else none
  else
   some (.inr (.inl (d.1,d.2.1,d.2.2.2.1,d.2.2.2.2.1,d.2.2.2.2.2.1,d.2.2.2.2.2.2.1,d.2.2.2.2.2.2.2.1,d.2.2.2.2.2.2.2.2.1,())))
 else none
def Kl (dy:mP->O (fq×H)) (d:Fi):O (Fj⊕H):=b8 (ze dy) d
def vW (dy:mP->O (fq×H)) (d:La):O (La⊕((bF×aK×fh×cb×Int×ak×cD×bo×cC×hz×H)⊕H)):=
 let t0:Int:=((d.2.2.2.2.2.2.2.2.2.2.1.length):Int)
 bif d.2.2.1<t0 then
  bif 0<=d.2.2.1&&d.2.2.1<(d.2.2.2.2.2.2.2.2.2.2.1.length:Int) then
   let t1:=(d.2.2.2.2.2.2.2.2.2.2.1.getD (d.2.2.1.toNat) ([],([],())))
   bif ((1:Int)<=(d.2.1.length:Int)&&((d.2.1.length:Int):Int)<=(d.2.1.length:Int)) then
    let t2:=(List.drop (Int.toNat 1) (List.take (Int.toNat (d.2.1.length:Int)) d.2.1))
    match dy (d.2.2.2.1,d.1,t1,t2,d.2.2.2.2.2.1,()) with
    |none=>none
    |some bV=>
     match xf (bV.1.1,bV.1.2.1,()) with
     |none=>none
     |some dE=>
      bif ((d.2.2.2.2.2.2.2.2.2.2.2.2.1.length+List.length ([bV.1.2.1]:cC))*8<=bC) then
       let t5:cC:=(d.2.2.2.2.2.2.2.2.2.2.2.2.1++([bV.1.2.1]:cC))
       match na (dE.1,()) with
       |none=>none
       |some iS=>
        bif ((d.2.2.2.2.2.2.2.2.2.2.2.2.2.1.length+List.length ([iS.1]:hz))*32<=bC) then
         let t7:hz:=(d.2.2.2.2.2.2.2.2.2.2.2.2.2.1++([iS.1]:hz))
         some (.inl (d.1,d.2.1,(i64.wrap (d.2.2.1+1)),bV.1.1,d.2.2.2.2.1,d.2.2.2.2.2.1,d.2.2.2.2.2.2.1,d.2.2.2.2.2.2.2.1,d.2.2.2.2.2.2.2.2.1,d.2.2.2.2.2.2.2.2.2.1,d.2.2.2.2.2.2.2.2.2.2.1,d.2.2.2.2.2.2.2.2.2.2.2.1,t5,t7,()))
        else none
      else none
   else none
  else none
 else
  some (.inr (.inl (d.2.2.2.1,d.2.2.2.2.1,d.2.2.2.2.2.1,d.2.2.2.2.2.2.1,d.2.2.2.2.2.2.2.1,d.2.2.2.2.2.2.2.2.1,d.2.2.2.2.2.2.2.2.2.1,d.2.2.2.2.2.2.2.2.2.2.2.1,d.2.2.2.2.2.2.2.2.2.2.2.2.1,d.2.2.2.2.2.2.2.2.2.2.2.2.2.1,())))
def Km (dy:mP->O (fq×H)) (d:La):O ((bF×aK×fh×cb×Int×ak×cD×bo×cC×hz×H)⊕H):=b8 (vW dy) d
def zf (dy:mP->O (fq×H)) (d:Lc):O (Lc⊕((cb×Int×qh×bF×H)⊕H)):=
 let t0:=(decide (d.1<((d.2.2.2.2.2.2.2.1.length):Int)))
 bif t0 then
  bif 0<=d.1&&d.1<(d.2.2.2.2.2.2.2.1.length:Int) then
   let t1:=(d.2.2.2.2.2.2.2.1.getD (d.1.toNat) 0)
   match zO (d.2.2.2.2.2.1,t1,()) with
   |none=>none
   |some aS=>
    some (.inl ((i64.wrap (d.1+1)),d.2.1,d.2.2.1,d.2.2.2.1,d.2.2.2.2.1,aS.1,d.2.2.2.2.2.2.1,d.2.2.2.2.2.2.2.1,d.2.2.2.2.2.2.2.2.1,d.2.2.2.2.2.2.2.2.2.1,()))
  else none
 else
  some (.inr (.inl (d.2.1,d.2.2.1,d.2.2.2.2.1,d.2.2.2.2.2.1,())))
def Kn (dy:mP->O (fq×H)) (d:Lc):O ((cb×Int×qh×bF×H)⊕H):=b8 (zf dy) d
def vX (dy:mP->O (fq×H)) (d:bF×cb×Int×ak×bo×cC×hz×cD×H):O (fq×H):=
 match tX (d.1,(d.2.2.2.1,(d.2.2.2.2.1,(d.2.2.2.2.2.1,(d.2.2.2.2.2.2.1,(d.2.2.2.2.2.2.2.1,()))))),()) with
 |none=>none
 |some aa=>
  match Kn dy (0,d.2.1,d.2.2.1,d.2.2.2.1,aa.1,aa.1.1,d.2.2.2.2.1,d.2.2.2.2.2.1,d.2.2.2.2.2.2.1,d.2.2.2.2.2.2.2.1,()) with
  |none=>none
  |some (.inl aF)=>
   some ((aF.2.2.2.1,(aF.2.2.1.2.1,())),())
  |some (.inr aF)=>
   none
def DU (dy:mP->O (fq×H)) (d:Int×bF×aK×fh×cb×Int×ak×cD×bo×cC×hz×H):O (fq×H):=
 bif 0<=d.1&&d.1<4 then
  bif (Nat.beq (d.1.toNat) 3) then
   match wc (d.2.2.2.1.2.1.2.2.2.1,d.2.2.1,5,()) with
   |none=>none
   |some aa=>
    vX dy (d.2.1,d.2.2.2.2.1,d.2.2.2.2.2.1,d.2.2.2.2.2.2.1,d.2.2.2.2.2.2.2.2.1,d.2.2.2.2.2.2.2.2.2.1,d.2.2.2.2.2.2.2.2.2.2.1,aa.1,())
  else
   bif (Nat.beq (d.1.toNat) 2) then
    match wc (d.2.2.2.1.2.1.2.2.1,d.2.2.1,5,()) with
    |none=>none
    |some aa=>
     vX dy (d.2.1,d.2.2.2.2.1,d.2.2.2.2.2.1,d.2.2.2.2.2.2.1,d.2.2.2.2.2.2.2.2.1,d.2.2.2.2.2.2.2.2.2.1,d.2.2.2.2.2.2.2.2.2.2.1,aa.1,())
   else
    bif (Nat.beq (d.1.toNat) 1) then
     match wc (d.2.2.2.1.2.1.2.1,d.2.2.1,5,()) with
     |none=>none
     |some aa=>
      vX dy (d.2.1,d.2.2.2.2.1,d.2.2.2.2.2.1,d.2.2.2.2.2.2.1,d.2.2.2.2.2.2.2.2.1,d.2.2.2.2.2.2.2.2.2.1,d.2.2.2.2.2.2.2.2.2.2.1,aa.1,())
    else
     bif (Nat.beq (d.1.toNat) 0) then
      match wc (d.2.2.2.1.2.1.1,d.2.2.1,5,()) with
      |none=>none
      |some aa=>
       vX dy (d.2.1,d.2.2.2.2.1,d.2.2.2.2.2.1,d.2.2.2.2.2.2.1,d.2.2.2.2.2.2.2.2.1,d.2.2.2.2.2.2.2.2.2.1,d.2.2.2.2.2.2.2.2.2.2.1,aa.1,())
     else none
 else none
def Kk (dy:mP->O (fq×H)) (d:Fj):O (fq×H):=
 let t0:=(decide ((((d.2.1.length):Int):Int)=0))
 bif t0 then
  match F5 (d.1,d.2.2.2.1,()) with
  |none=>none
  |some ah=>
   match tX (d.2.2.1,(ah.1,(d.2.2.2.2.2.2.2.1,([],([],([],()))))),()) with
   |none=>none
   |some aS=>
    some ((aS.1.1,(aS.1.2.1,())),())
 else
  let t1:=(i64.wrap (((d.2.2.2.2.2.2.2.1.length):Int)+1))
  bif (0<=t1&&t1<=t1&&t1*8<=(bC:Int)) then
   match EN ((([]:ak),(d.2.2.2.2.2.2.2.1,((List.replicate (t1.toNat) (0:Int)),(([]:hz),(([]:cD),()))))),d.2.2.2.1,()) with
   |none=>none
   |some aS=>
    match Km dy (d.1,d.2.1,0,d.2.2.1,d.2.2.2.1,d.2.2.2.2.1,d.2.2.2.2.2.1,d.2.2.2.2.2.2.1,[],[],aS.1,d.2.2.2.2.2.2.2.1,[],[],()) with
    |none=>none
    |some (.inl z3)=>
     let t4:=(!(az.eqb ac z3.2.1 ([],([],()))))
     bif t4 then
      let t5:Int:=(Int.tmod ((z3.2.1.1.length):Int) 3)
      DU dy ((i64.wrap (1+t5)),z3.1,z3.2.1,z3.2.2.1,z3.2.2.2.1,z3.2.2.2.2.1,z3.2.2.2.2.2.1,z3.2.2.2.2.2.2.1,z3.2.2.2.2.2.2.2.1,z3.2.2.2.2.2.2.2.2.1,z3.2.2.2.2.2.2.2.2.2.1,())
     else
      DU dy (0,z3.1,z3.2.1,z3.2.2.1,z3.2.2.2.1,z3.2.2.2.2.1,z3.2.2.2.2.2.1,z3.2.2.2.2.2.2.1,z3.2.2.2.2.2.2.2.1,z3.2.2.2.2.2.2.2.2.1,z3.2.2.2.2.2.2.2.2.2.1,())
    |some (.inr z3)=>
     none
  else none
def vQ (dy:mP->O (fq×H)) (d:mP):O (fq×H):=
 let t0:=(decide ((((d.2.2.2.1.length):Int):Int)>0))
 bif t0 then
  match Kl dy (d.2.1,d.2.2.2.1,0,d.1,d.2.2.1,d.2.2.2.2.1,[],0,[],()) with
  |none=>none
  |some (.inl aF)=>
   Kk dy (aF.1,aF.2.1,aF.2.2.1,aF.2.2.2.1,aF.2.2.2.2.1,aF.2.2.2.2.2.1,aF.2.2.2.2.2.2.1,aF.2.2.2.2.2.2.2.1,())
  |some (.inr aF)=>
   none
 else
  Kk dy (d.2.1,d.2.2.2.1,d.1,d.2.2.1,d.2.2.2.2.1,[],0,[],())
def yS:Nat->mP->O (fq×H)
 |0,_=>none
 |n+1,d=>vQ (yS n) d
def F7 (d:mP):O (fq×H):=yS jl d
def Gt (d:fh×H):O (c1×H):=
 match AM (d.1.1,()) with
 |none=>none
 |some aa=>
  let t1:=i64.wrap (Int.tmod d.1.2.2.1 4)
  bif (0<=t1&&t1<(List.length ([[],([([([97,47,98,47]:N),([98,47]:N),([99,47]:N)]:bo)]:List bo),([([([98,47]:N)]:bo),([([97,47,2]:N),([97,47,98,47]:N),([99,47]:N)]:bo)]:List bo),([([([97,47,98,47]:N),([98,47]:N)]:bo),([([97,47,98,47,2]:N),([99,47]:N),([100,47]:N)]:bo)]:List bo)]:List (List bo)):Int)) then
   let t2:=(List.getD ([[],([([([97,47,98,47]:N),([98,47]:N),([99,47]:N)]:bo)]:List bo),([([([98,47]:N)]:bo),([([97,47,2]:N),([97,47,98,47]:N),([99,47]:N)]:bo)]:List bo),([([([97,47,98,47]:N),([98,47]:N)]:bo),([([97,47,98,47,2]:N),([99,47]:N),([100,47]:N)]:bo)]:List bo)]:List (List bo)) (t1.toNat) [])
   match F7 (([],()),aa.1,([],([],())),t2,d.1,()) with
   |none=>none
   |some bV=>
    let t4:=(IntKind.u8.wrap (Int.tdiv d.1.2.2.1 4))
    let t5:=i64.wrap (Int.tmod t4 4)
    let t6:=(IntKind.u8.wrap (Int.tdiv d.1.2.2.1 16))
    let t7:=i64.wrap (Int.tmod t6 3)
    let t8:=(IntKind.u8.wrap (Int.tdiv d.1.2.2.1 64))
    let t9:=i64.wrap (1+(i64.wrap t8))
    some ((bV.1.1,(bV.1.2.1,(((i64.wrap (2+t5)),((i64.wrap (2+t7)),(t9,()))),()))),())
  else none
def o4 (d:bi):O (Bool×H):=
 bif d.2.1<=d.1 then
  some ((decide (d.1<=d.2.2.1)),())
 else
  some (false,())
def v8 (d:bE×H):O (Bool×H):=
 match o4 (((d.1.2.1.length):Int),1,65535,()) with
 |none=>none
 |some aa=>
  bif aa.1 then
   let t1:=(decide ((((d.1.2.2.1.length):Int):Int)<=64))
   bif t1 then
    match o4 (d.1.2.2.2.2.2.2.1,0,1000000000,()) with
    |none=>none
    |some aS=>
     some (aS.1,())
   else
    some (false,())
  else
   some (false,())
def KT (d:bE×H):O (bE×H):=
 some ((d.1.1,(d.1.2.1,(d.1.2.2.1,(([],([],())),([],([],(d.1.2.2.2.2.2.2.1,()))))))),())
def Eb (d:bE×H):O (Bool×H):=
 match o4 (((d.1.2.1.length):Int),1,65535,()) with
 |none=>none
 |some aa=>
  some (aa.1,())
def KS (d:bE×H):O (bE×H):=
 some ((d.1.1,(d.1.2.1,([],(([],([],())),([],([],(0,()))))))),())
def y6 (d:aK×H):O (Bool×H):=
 match kI (d.1,()) with
 |none=>none
 |some aa=>
  bif !aa.1 then
   let t1:Int:=(if (((d.1.1.length):Int):Int)<((d.1.2.1.length):Int) then ((d.1.2.1.length):Int) else ((d.1.1.length):Int))
   some ((decide (t1<=65535)),())
  else
   some (false,())
def DQ (d:bE×H):O (Bool×H):=
 match y6 (d.1.2.2.2.1,()) with
 |none=>none
 |some aa=>
  some (aa.1,())
def KB (d:bE×H):O (bE×H):=
 some ((d.1.1,([],([],(d.1.2.2.2.1,([],([],(0,()))))))),())
def rT (d:aK):O (Bool×H):=
 match o4 (((d.1.length):Int),1,200,()) with
 |none=>none
 |some aa=>
  bif aa.1 then
   match o4 (((d.2.1.length):Int),1,200,()) with
   |none=>none
   |some ah=>
    bif ah.1 then
     match yO (d.1,d.2.1,()) with
     |none=>none
     |some aS=>
      bif !aS.1 then
       match yO (d.2.1,d.1,()) with
       |none=>none
       |some bV=>
        some ((!bV.1),())
      else
       some (false,())
    else
     some (false,())
  else
   some (false,())
def wt (d:bE×H):O (Bool×H):=
 match rT (d.1.2.2.2.2.1,d.1.2.2.2.2.2.1,()) with
 |none=>none
 |some aa=>
  some (aa.1,())
def KC (d:bE×H):O (bE×H):=
 some ((d.1.1,([],([],(([],([],())),(d.1.2.2.2.2.1,(d.1.2.2.2.2.2.1,(0,()))))))),())
def J4 (d:bE×H):O (Bool×H):=
 match rT (d.1.2.2.2.2.1,d.1.2.2.2.2.2.1,()) with
 |none=>none
 |some aa=>
  some (aa.1,())
def wl (d:bE×H):O (bE×H):=
 some ((d.1.1,([],([],(([],([],())),(d.1.2.2.2.2.1,(d.1.2.2.2.2.2.1,(0,()))))))),())
def y8 (d:bE×H):O (Bool×H):=
 match y6 (d.1.2.2.2.1,()) with
 |none=>none
 |some aa=>
  bif aa.1 then
   match o4 (d.1.2.2.2.2.2.2.1,0,1000000000,()) with
   |none=>none
   |some ah=>
    some (ah.1,())
  else
   some (false,())
def Kr (d:bE×H):O (bE×H):=
 some ((d.1.1,([],([],(d.1.2.2.2.1,([],([],(d.1.2.2.2.2.2.2.1,()))))))),())
def h1 (d:bE×H):O (Bool×H):=
 bif d.1.1=1 then
  match v8 (d.1,()) with
  |none=>none
  |some aa=>
   bif aa.1 then
    match KT (d.1,()) with
    |none=>none
    |some ah=>
     let t2:=(az.eqb am ah.1 d.1)
     some (t2,())
   else
    some (false,())
 else
  bif d.1.1=2 then
   match Eb (d.1,()) with
   |none=>none
   |some aa=>
    bif aa.1 then
     match KS (d.1,()) with
     |none=>none
     |some ah=>
      let t2:=(az.eqb am ah.1 d.1)
      some (t2,())
    else
     some (false,())
  else
   bif d.1.1=3 then
    match DQ (d.1,()) with
    |none=>none
    |some aa=>
     bif aa.1 then
      match KB (d.1,()) with
      |none=>none
      |some ah=>
       let t2:=(az.eqb am ah.1 d.1)
       some (t2,())
     else
      some (false,())
   else
    bif d.1.1=4 then
     match wt (d.1,()) with
     |none=>none
     |some aa=>
      bif aa.1 then
       match KC (d.1,()) with
       |none=>none
       |some ah=>
        let t2:=(az.eqb am ah.1 d.1)
        some (t2,())
      else
       some (false,())
    else
     bif d.1.1=5 then
      match J4 (d.1,()) with
      |none=>none
      |some aa=>
       bif aa.1 then
        match wl (d.1,()) with
        |none=>none
        |some ah=>
         let t2:=(az.eqb am ah.1 d.1)
         some (t2,())
       else
        some (false,())
     else
      bif d.1.1=6 then
       match y8 (d.1,()) with
       |none=>none
       |some aa=>
        bif aa.1 then
         match Kr (d.1,()) with
         |none=>none
         |some ah=>
          let t2:=(az.eqb am ah.1 d.1)
          some (t2,())
        else
         some (false,())
      else
       some (false,())
def ve (d:ak×H):O (ak×H):=bif ((List.length ([]:ak)+d.1.length)*40<=bC) then some (d.1,()) else none
def Ir (d:Int×ak×ak×H):O As:=AA 40 d
def GJ (d:ak×cp×H):O (ak×H):=
 match wB (d.1,d.2.1.1,()) with
 |none=>none
 |some aa=>
  match ve (d.1,()) with
  |none=>none
  |some ah=>
   bif aa.2.1 then
    bif 0<=aa.1&&aa.1<(ah.1.length:Int) then
     some ((List.set ah.1 (aa.1.toNat) d.2.1),())
    else none
   else
    match Ir (aa.1,ah.1,([d.2.1]:ak),()) with
    |none=>none
    |some aS=>
     some (aS.2.1,())
def KD (d:w7):O (ak×H):=
 match GJ (d.2.1,(d.1.2.1,(d.1.2.2.1,(d.1.2.2.2.2.2.2.1,()))),()) with
 |none=>none
 |some aa=>
  some (aa.1,())
def EA (d:w5):O lW:=
 match kI (d.2.1,()) with
 |none=>none
 |some aa=>
  bif aa.1 then
   some (0,0,())
  else
   match wB (d.1,d.2.1.1,()) with
   |none=>none
   |some ah=>
    let t2:=(!decide ((d.2.1.2.1:N)=[]))
    bif t2 then
     match wB (d.1,d.2.1.2.1,()) with
     |none=>none
     |some bV=>
      some (ah.1,bV.1,())
    else
     some (ah.1,((d.1.length):Int),())
def Iw (d:Int×H):O (ak×H):=
 bif d.1<0 then
  none
 else
  let t0:=i64.wrap (0-0)
  let t1:=(decide (((i64.wrap (d.1-t0)):Int)>0))
  bif t1 then
   bif (0<(i64.wrap (d.1-t0))&&(i64.wrap (d.1-t0))*40<=(bC:Int)) then
    bif (((0:Int):Int)<=(List.length (List.replicate (Int.toNat (i64.wrap (d.1-t0))) (([]:N),(([]:N),((0:Int),())))):Int)) then
     let t2:=(List.take 0 (List.replicate (Int.toNat (i64.wrap (d.1-t0))) (([]:N),(([]:N),((0:Int),())))))
     some (t2,())
    else none
   else none
  else
   some ([],())
def qI (d:UL):O (UL⊕(((List ak)×Int×H)⊕H)):=
 let t0:=decide (d.2.2.2.2.1<d.2.2.2.1)
 bif t0 then
  bif 0<=d.2.2.2.2.1&&d.2.2.2.2.1<(d.2.2.1.length:Int) then
   let t1:=(d.2.2.1.getD (d.2.2.2.2.1.toNat) [])
   let t2:=(i64.wrap (d.2.1+((t1.length):Int)))
   bif t2<0 then
    none
   else
    let t3:=i64.wrap (d.2.2.2.2.1+1)
    some (.inl (d.1,t2,d.2.2.1,d.2.2.2.1,t3,()))
  else none
 else
  some (.inr (.inl (d.1,d.2.1,())))
def Sg:=b8 qI
def qV (d:(List ak)×Int×Int×ak×H):O (((List ak)×Int×Int×ak×H)⊕((ak×H)⊕H)):=
 bif d.2.2.1<d.2.1 then
  bif 0<=d.2.2.1&&d.2.2.1<(d.1.length:Int) then
   let t0:=(d.1.getD (d.2.2.1.toNat) [])
   bif (d.2.2.2.1.length+t0.length)*40<=bC then
    some (.inl (d.1,d.2.1,(i64.wrap (d.2.2.1+1)),(d.2.2.2.1++t0),()))
   else none
  else none
 else
  some (.inr (.inl (d.2.2.2.1,())))
def Sh:=b8 qV
def Iq (d:(List ak)×H):O (ak×H):=
 match Sg (d.1,0,d.1,((d.1.length):Int),0,()) with
 |none=>none
 |some (.inl z0)=>
  match Iw (z0.2.1,()) with
  |none=>none
  |some ah=>
   match Sh (z0.1,((z0.1.length):Int),0,ah.1,()) with
   |none=>none
   |some (.inl z2)=>
    some (z2.1,())
   |some (.inr z2)=>
    none
 |some (.inr z0)=>
  none
def tQ (d:w5):O (ak×H):=
 match EA (d.1,d.2.1,()) with
 |none=>none
 |some aa=>
  bif (0:Int)<=aa.1&&aa.1<=(d.1.length:Int) then
   let t1:=(List.drop 0 (List.take (aa.1.toNat) d.1))
   bif (0<=aa.2.1&&aa.2.1<=(d.1.length:Int)&&((d.1.length:Int):Int)<=(d.1.length:Int)) then
    let t2:=(List.drop (aa.2.1.toNat) (List.take (Int.toNat (d.1.length:Int)) d.1))
    match Iq (([t1,t2]:List ak),()) with
    |none=>none
    |some bV=>
     some (bV.1,())
   else none
  else none
def GI (d:Fu):O (ak×H):=
 match qw (d.2.1,()) with
 |none=>none
 |some aa=>
  match tQ (d.1,aa.1,()) with
  |none=>none
  |some ah=>
   some (ah.1,())
def KA (d:w7):O (ak×H):=
 match GI (d.2.1,d.1.2.1,()) with
 |none=>none
 |some aa=>
  some (aa.1,())
def wn (d:w7):O (ak×H):=
 match tQ (d.2.1,d.1.2.2.2.1,()) with
 |none=>none
 |some aa=>
  some (aa.1,())
def F1 (d:w5):O (ak×H):=
 match EA (d.1,d.2.1,()) with
 |none=>none
 |some aa=>
  bif (0<=aa.1&&aa.1<=aa.2.1&&aa.2.1<=(d.1.length:Int)&&aa.2.1=aa.2.1) then
   let t1:=(List.drop (aa.1.toNat) (List.take (aa.2.1.toNat) d.1))
   some (t1,())
  else none
def zu (d:UT):O (UT⊕((ak×H)⊕H)):=
 bif d.2.2.2.1<d.2.2.1 then
  bif 0<=d.2.2.2.1&&d.2.2.2.1<(d.2.2.2.2.1.length:Int) then
   let t0:=(d.2.2.2.2.1.getD (d.2.2.2.1.toNat) ([],([],(0,()))))
   match wE (t0.1,d.1,d.2.1,()) with
   |none=>none
   |some ah=>
    bif 0<=d.2.2.2.1&&d.2.2.2.1<(d.2.2.2.2.1.length:Int) then
     let t2:=(List.set d.2.2.2.2.1 (d.2.2.2.1.toNat) (ah.1,(d.2.2.2.2.1.getD (d.2.2.2.1.toNat) ([],([],(0,())))).2))
     let t3:=i64.wrap (d.2.2.2.1+1)
     some (.inl (d.1,d.2.1,d.2.2.1,t3,t2,()))
    else none
  else none
 else
  some (.inr (.inl (d.2.2.2.2.1,())))
def NF:=b8 zu
def Gz (d:ak×N×N×H):O (ak×H):=
 match kU (d.2.1,()) with
 |none=>none
 |some aa=>
  match F1 (d.1,aa.1,()) with
  |none=>none
  |some ah=>
   match ve (ah.1,()) with
   |none=>none
   |some aS=>
    match NF (d.2.1,d.2.2.1,((aS.1.length):Int),0,aS.1,()) with
    |none=>none
    |some (.inl z3)=>
     some (z3.1,())
    |some (.inr z3)=>
     none
def Tw (d:sa):O (sa⊕(sa⊕H)):=
 bif (0:Int)<(d.2.1.length:Int) then
  let t0:=(d.2.1.getD 0 ([],([],(0,()))))
  bif ((d.2.2.1.length+List.length ([t0]:ak))*40<=bC) then
   let t1:ak:=(d.2.2.1++([t0]:ak))
   bif ((1:Int)<=(d.2.1.length:Int)&&((d.2.1.length:Int):Int)<=(d.2.1.length:Int)) then
    let t2:=(List.drop (Int.toNat 1) (List.take (Int.toNat (d.2.1.length:Int)) d.2.1))
    some (.inl (d.1,t2,t1,()))
   else none
  else none
 else none
def Dv (d:ak×ak×Bool×ak×H):O (sa⊕(sa⊕H)):=
 bif d.2.2.1 then
  some (.inr (.inl (d.1,d.2.1,d.2.2.2.1,())))
 else
  bif (0:Int)<(d.1.length:Int) then
   let t0:=(d.1.getD 0 ([],([],(0,()))))
   bif (0:Int)<(d.2.1.length:Int) then
    let t1:=(d.2.1.getD 0 ([],([],(0,()))))
    bif (Op.bytesLess t0.1 t1.1) then
     bif (0:Int)<(d.1.length:Int) then
      let t2:=(d.1.getD 0 ([],([],(0,()))))
      bif ((d.2.2.2.1.length+List.length ([t2]:ak))*40<=bC) then
       let t3:ak:=(d.2.2.2.1++([t2]:ak))
       bif ((1:Int)<=(d.1.length:Int)&&((d.1.length:Int):Int)<=(d.1.length:Int)) then
        let t4:=(List.drop (Int.toNat 1) (List.take (Int.toNat (d.1.length:Int)) d.1))
        some (.inl (t4,d.2.1,t3,()))
       else none
      else none
     else none
    else
     bif (0:Int)<(d.1.length:Int) then
      let t2:=(d.1.getD 0 ([],([],(0,()))))
      bif (0:Int)<(d.2.1.length:Int) then
       let t3:=(d.2.1.getD 0 ([],([],(0,()))))
       bif (t2.1:N)=t3.1 then
        bif ((1:Int)<=(d.1.length:Int)&&((d.1.length:Int):Int)<=(d.1.length:Int)) then
         let t4:=(List.drop (Int.toNat 1) (List.take (Int.toNat (d.1.length:Int)) d.1))
         Tw (t4,d.2.1,d.2.2.2.1,())
        else none
       else
        Tw (d.1,d.2.1,d.2.2.2.1,())
      else none
     else none
   else none
  else none
def zh (d:sa):O (sa⊕(sa⊕H)):=
 let t0:=(decide ((((d.1.length):Int):Int)=0))
 bif !t0 then
  let t1:=(decide ((((d.2.1.length):Int):Int)=0))
  Dv (d.1,d.2.1,t1,d.2.2.1,())
 else
  Dv (d.1,d.2.1,true,d.2.2.1,())
def Ml:=b8 zh
def F2 (d:As):O (ak×H):=
 let t0:=(i64.wrap (((d.1.length):Int)+((d.2.1.length):Int)))
 bif (0<=0&&(0:Int)<=t0&&t0*40<=(bC:Int)) then
  match Ml (d.1,d.2.1,(List.replicate 0 (([]:N),(([]:N),((0:Int),())))),()) with
  |none=>none
  |some (.inl aF)=>
   bif (aF.2.2.1.length+aF.1.length)*40<=bC then
    bif ((List.length (aF.2.2.1++aF.1)+aF.2.1.length)*40<=bC) then
     some (((aF.2.2.1++aF.1)++aF.2.1),())
    else none
   else none
  |some (.inr aF)=>
   none
 else none
def DE (d:w7):O (ak×H):=
 match kU (d.1.2.2.2.2.2.1,()) with
 |none=>none
 |some aa=>
  match tQ (d.2.1,aa.1,()) with
  |none=>none
  |some ah=>
   match Gz (d.2.1,d.1.2.2.2.2.1,d.1.2.2.2.2.2.1,()) with
   |none=>none
   |some aS=>
    match F2 (ah.1,aS.1,()) with
    |none=>none
    |some bV=>
     some (bV.1,())
def Kq (d:w7):O (ak×H):=
 match DE (d.1,d.2.1,()) with
 |none=>none
 |some aa=>
  match kU (d.1.2.2.2.2.1,()) with
  |none=>none
  |some ah=>
   match tQ (aa.1,ah.1,()) with
   |none=>none
   |some aS=>
    some (aS.1,())
def Dr (d:Int×Int×bE×ak×H):O ((Int×Int×bE×ak×H)⊕((ak×H)⊕H)):=
 bif d.2.1<d.1 then
  bif 0<=d.2.1&&d.2.1<(d.2.2.2.1.length:Int) then
   let t0:=(d.2.2.2.1.getD (d.2.1.toNat) ([],([],(0,()))))
   match pE (d.2.2.1.2.2.2.1,t0.1,()) with
   |none=>none
   |some ah=>
    bif ah.1 then
     bif 0<=d.2.1&&d.2.1<(d.2.2.2.1.length:Int) then
      let t2:=(List.set d.2.2.2.1 (d.2.1.toNat) ((d.2.2.2.1.getD (d.2.1.toNat) ([],([],(0,())))).1,((d.2.2.2.1.getD (d.2.1.toNat) ([],([],(0,())))).2.1,(d.2.2.1.2.2.2.2.2.2.1,(d.2.2.2.1.getD (d.2.1.toNat) ([],([],(0,())))).2.2.2))))
      some (.inl (d.1,(i64.wrap (d.2.1+1)),d.2.2.1,t2,()))
     else none
    else
     some (.inl (d.1,(i64.wrap (d.2.1+1)),d.2.2.1,d.2.2.2.1,()))
  else none
 else
  some (.inr (.inl (d.2.2.2.1,())))
def Tn:=b8 Dr
def J5 (d:w7):O (ak×H):=
 match ve (d.2.1,()) with
 |none=>none
 |some aa=>
  match Tn (((aa.1.length):Int),0,d.1,aa.1,()) with
  |none=>none
  |some (.inl aF)=>
   some (aF.1,())
  |some (.inr aF)=>
   none
def kP (d:ak×bE×H):O (ak×H):=
 bif d.2.1.1=1 then
  match KD (d.2.1,d.1,()) with
  |none=>none
  |some aa=>
   some (aa.1,())
 else
  bif d.2.1.1=2 then
   match KA (d.2.1,d.1,()) with
   |none=>none
   |some aa=>
    some (aa.1,())
  else
   bif d.2.1.1=3 then
    match wn (d.2.1,d.1,()) with
    |none=>none
    |some aa=>
     some (aa.1,())
   else
    bif d.2.1.1=4 then
     match Kq (d.2.1,d.1,()) with
     |none=>none
     |some aa=>
      some (aa.1,())
    else
     bif d.2.1.1=5 then
      match DE (d.2.1,d.1,()) with
      |none=>none
      |some aa=>
       some (aa.1,())
     else
      bif d.2.1.1=6 then
       match J5 (d.2.1,d.1,()) with
       |none=>none
       |some aa=>
        some (aa.1,())
      else
       some (d.1,())
def wh (d:cb×cC×cb×H):O ((cb×cC×cb×H)⊕((cb×cb×H)⊕H)):=
 let t0:=(decide ((((d.2.1.length):Int):Int)>0))
 bif t0 then
  let t1:=(i64.wrap (((d.2.1.length):Int)-1))
  bif 0<=t1&&t1<(d.2.1.length:Int) then
   let t2:=(d.2.1.getD (t1.toNat) 0)
   let t3:=(i64.wrap (((d.2.1.length):Int)-1))
   bif (0:Int)<=t3&&t3<=(d.2.1.length:Int) then
    bif 0<=t2&&t2<(d.2.2.1.length:Int) then
     let t4:=(d.2.2.1.getD (t2.toNat) (false,(false,(0,(([],([],([],([],([],()))))),())))))
     let t5:=i64.wrap (t4.2.2.1-1)
     let t6:=(List.set d.2.2.1 (t2.toNat) ((d.2.2.1.getD (t2.toNat) (false,(false,(0,(([],([],([],([],([],()))))),()))))).1,((d.2.2.1.getD (t2.toNat) (false,(false,(0,(([],([],([],([],([],()))))),()))))).2.1,(t5,(d.2.2.1.getD (t2.toNat) (false,(false,(0,(([],([],([],([],([],()))))),()))))).2.2.2))))
     let t7:=(t6.getD (t2.toNat) (false,(false,(0,(([],([],([],([],([],()))))),())))))
     bif t7.2.2.1>0 then
      some (.inl (d.1,(List.take (t3.toNat) d.2.1),t6,()))
     else
      let t8:=(t6.getD (t2.toNat) (false,(false,(0,(([],([],([],([],([],()))))),())))))
      bif ((List.length (List.take (t3.toNat) d.2.1)+t8.2.2.2.1.2.2.1.length)*8<=bC) then
       let t9:=(List.take (t3.toNat) d.2.1++t8.2.2.2.1.2.2.1)
       let t10:=(List.set t6 (t2.toNat) (false,(false,(0,(([],([],([],([],([],()))))),())))))
       some (.inl (d.1,t9,t10,()))
      else none
    else none
   else none
  else none
 else
  some (.inr (.inl (d.1,d.2.2.1,())))
def NH:=b8 wh
def nb (d:fq):O fq:=
 match oP (d.1,d.2.1,()) with
 |none=>none
 |some aa=>
  bif !aa.1 then
   some (d.1,110,())
  else
   match AS (d.1,()) with
   |none=>none
   |some ah=>
    match NH ([],([d.2.1]:cC),ah.1,()) with
    |none=>none
    |some (.inl z2)=>
     some ((z2.2.1,()),0,())
    |some (.inr z2)=>
     none
def I8 (d:cD×H):O (cD×H):=
 bif (0<=0&&(0:Int)<=((d.1.length):Int)&&(((d.1.length):Int):Int)<=(d.1.length:Int)&&(((d.1.length):Int):Int)=((d.1.length):Int)) then
  let t0:=(List.drop 0 (List.take (Int.toNat ((d.1.length):Int)) d.1))
  some (t0,())
 else none
def nf (d:c1×bE×H):O (c1×Int×H):=
 match h1 (d.2.1,()) with
 |none=>none
 |some aa=>
  bif !aa.1 then
   some (d.1,50,())
  else
   match d9 (d.1.1,d.1.2.1,()) with
   |none=>none
   |some ah=>
    bif (!(ah.2.1=0)) then
     some (d.1,ah.2.1,())
    else
     match tS (ah.1,()) with
     |none=>none
     |some aS=>
      bif aS.1 then
       match kP (ah.1.1,d.2.1,()) with
       |none=>none
       |some bV=>
        match kR (d.1.1,(bV.1,(ah.1.2.1,(ah.1.2.2.1,(ah.1.2.2.2.1,(ah.1.2.2.2.2.1,()))))),()) with
        |none=>none
        |some dE=>
         bif (!(dE.2.2.1=0)) then
          some (d.1,dE.2.2.1,())
         else
          match nb (dE.1,d.1.2.1,()) with
          |none=>none
          |some gj=>
           bif (!(gj.2.1=0)) then
            some (d.1,gj.2.1,())
           else
            some ((gj.1,(dE.2.1,(d.1.2.2.1,()))),0,())
      else
       match I8 (ah.1.2.2.2.2.1,()) with
       |none=>none
       |some bV=>
        bif (0<List.length ([d.2.1]:cD)&&(bV.1.length+List.length ([d.2.1]:cD))*112<=bC) then
         let t4:cD:=(bV.1++([d.2.1]:cD))
         match kR (d.1.1,(ah.1.1,(ah.1.2.1,(ah.1.2.2.1,(ah.1.2.2.2.1,(t4,()))))),()) with
         |none=>none
         |some gj=>
          bif (!(gj.2.2.1=0)) then
           some (d.1,gj.2.2.1,())
          else
           match nb (gj.1,d.1.2.1,()) with
           |none=>none
           |some iS=>
            bif (!(iS.2.1=0)) then
             some (d.1,iS.2.1,())
            else
             some ((iS.1,(gj.2.1,(d.1.2.2.1,()))),0,())
        else none
def YB (d:Int×c1×cz×H):O ((Int×c1×cz×H)⊕((Int×H)⊕H)):=
 match tS (d.2.2.1,()) with
 |none=>none
 |some aa=>
  bif !aa.1 then
   bif (0:Int)<(d.2.2.1.2.2.1.length:Int) then
    match d9 (d.2.1.1,(d.2.2.1.2.2.1.getD 0 0),()) with
    |none=>none
    |some ah=>
     some (.inl ((i64.wrap (d.1+1)),d.2.1,ah.1,()))
   else none
  else
   some (.inr (.inl (d.1,())))
def YD:=b8 YB
def N8 (d:c1×H):O (Int×H):=
 match d9 (d.1.1,d.1.2.1,()) with
 |none=>none
 |some aa=>
  match YD (1,d.1,aa.1,()) with
  |none=>none
  |some (.inl aF)=>
   some (aF.1,())
  |some (.inr aF)=>
   none
def zv (d:Int×cb×Int×Int×H):O ((Int×cb×Int×Int×H)⊕((Int×H)⊕H)):=
 bif d.2.2.2.1<d.2.2.1 then
  bif 0<=d.2.2.2.1&&d.2.2.2.1<(d.2.1.length:Int) then
   let t0:=(d.2.1.getD (d.2.2.2.1.toNat) (false,(false,(0,(([],([],([],([],([],()))))),())))))
   bif t0.1 then
    let t1:=i64.wrap (d.2.2.2.1+1)
    some (.inl ((i64.wrap (d.1+1)),d.2.1,d.2.2.1,t1,()))
   else
    let t1:=i64.wrap (d.2.2.2.1+1)
    some (.inl (d.1,d.2.1,d.2.2.1,t1,()))
  else none
 else
  some (.inr (.inl (d.1,())))
def NI:=b8 zv
def GC (d:bF×H):O (Int×H):=
 match NI (0,d.1.1,((d.1.1.length):Int),0,()) with
 |none=>none
 |some (.inl z0)=>
  some (z0.1,())
 |some (.inr z0)=>
  none
def NU (d:H):O (c1×H):=
 match tX (([],()),(([(([97,47,120]:N),(([49]:N),(0,())))]:ak),([],([],([],([],()))))),()) with
 |none=>none
 |some aa=>
  match tX (aa.1.1,([],([],([],([],([],()))))),()) with
  |none=>none
  |some ah=>
   match tX (ah.1.1,([],(([([98,47]:N)]:bo),(([aa.1.2.1,ah.1.2.1]:cC),(([((0,(0,())),((0,(0,())),())),((0,(0,())),((0,(0,())),()))]:hz),(([(4,([],([],(([],([],())),(([97,47]:N),(([99,47]:N),(0,())))))))]:cD),()))))),()) with
   |none=>none
   |some aS=>
    match zO (aS.1.1,aa.1.2.1,()) with
    |none=>none
    |some bV=>
     match zO (bV.1,ah.1.2.1,()) with
     |none=>none
     |some dE=>
      some ((dE.1,(aS.1.2.1,((2,(2,(1,()))),()))),())
def qZ (d:Int×aK×aw×bF×Int×H):O (bF×Int×Int×aK×aw×H):=
 some (d.2.2.2.1,d.2.2.2.2.1,d.1,d.2.1,d.2.2.1,())
def Iv (d:aw×H):O (aw×H):=bif ((List.length ([]:aw)+d.1.length)*32<=bC) then some (d.1,()) else none
def Cd (d:l8):O (l8⊕((Int×aw×H)⊕(aw×H))):=
 bif d.2.1<d.1 then
  bif 0<=d.2.1&&d.2.1<(d.2.2.1.length:Int) then
   let t0:=(d.2.2.1.getD (d.2.1.toNat) ([],([],())))
   match kI (t0,()) with
   |none=>none
   |some ah=>
    bif ah.1 then
     some (.inr (.inl (d.2.1,d.2.2.1,())))
    else
     some (.inl (d.1,(i64.wrap (d.2.1+1)),d.2.2.1,()))
  else none
 else
  some (.inr (.inr (d.2.2.1,())))
def QJ:=b8 Cd
def xV (d:aw×H):O (Int×aw×H):=
 match QJ (((d.1.length):Int),0,d.1,()) with
 |none=>none
 |some (.inl z0)=>
  some (z0.1,z0.2.1,())
 |some (.inr z0)=>
  some ((-1:Int),z0.1,())
def xT (d:l8):O (l8⊕((Int×aw×H)⊕H)):=
 let t0:=(decide (d.2.1<((d.2.2.1.length):Int)))
 bif t0 then
  bif 0<=d.2.1&&d.2.1<(d.2.2.1.length:Int) then
   let t1:=(d.2.2.1.getD (d.2.1.toNat) ([],([],())))
   match kI (t1,()) with
   |none=>none
   |some aS=>
    bif !aS.1 then
     bif 0<=d.1&&d.1<(d.2.2.1.length:Int) then
      some (.inl ((i64.wrap (d.1+1)),(i64.wrap (d.2.1+1)),(List.set d.2.2.1 (d.1.toNat) t1),()))
     else none
    else
     some (.inl (d.1,(i64.wrap (d.2.1+1)),d.2.2.1,()))
  else none
 else
  some (.inr (.inl (d.1,d.2.2.1,())))
def QZ:=b8 xT
def B8 (d:aw×H):O (aw×H):=
 match xV (d.1,()) with
 |none=>none
 |some aa=>
  bif aa.1=(-1:Int) then
   some (aa.2.1,())
  else
   match QZ (aa.1,(i64.wrap (aa.1+1)),aa.2.1,()) with
   |none=>none
   |some (.inl aF)=>
    bif (0<=aF.1&&aF.1<=(aF.2.1.length:Int)&&((aF.2.1.length:Int):Int)<=(aF.2.1.length:Int)) then
     let t2:=(List.take (aF.1.toNat) aF.2.1++List.replicate ((Int.toNat (aF.2.1.length:Int))-(aF.1.toNat)) (([]:N),(([]:N),()))++List.drop ((aF.1.toNat)+((Int.toNat (aF.2.1.length:Int))-(aF.1.toNat))) aF.2.1)
     bif (0:Int)<=aF.1&&aF.1<=(t2.length:Int) then
      some ((List.take (aF.1.toNat) t2),())
     else none
    else none
   |some (.inr aF)=>
    none
def yL (d:lW):O (Int×H):=
 bif (0<=(IntKind.u8.wrap d.1)&&((IntKind.u8.wrap d.1):Int)<(List.length ([0,1,2,2,3,3,3,3,4,4,4,4,4,4,4,4,5,5,5,5,5,5,5,5,5,5,5,5,5,5,5,5,6,6,6,6,6,6,6,6,6,6,6,6,6,6,6,6,6,6,6,6,6,6,6,6,6,6,6,6,6,6,6,6,7,7,7,7,7,7,7,7,7,7,7,7,7,7,7,7,7,7,7,7,7,7,7,7,7,7,7,7,7,7,7,7,7,7,7,7,7,7,7,7,7,7,7,7,7,7,7,7,7,7,7,7,7,7,7,7,7,7,7,7,7,7,7,7,8,8,8,8,8,8,8,8,8,8,8,8,8,8,8,8,8,8,8,8,8,8,8,8,8,8,8,8,8,8,8,8,8,8,8,8,8,8,8,8,8,8,8,8,8,8,8,8,8,8,8,8,8,8,8,8,8,8,8,8,8,8,8,8,8,8,8,8,8,8,8,8,8,8,8,8,8,8,8,8,8,8,8,8,8,8,8,8,8,8,8,8,8,8,8,8,8,8,8,8,8,8,8,8,8,8,8,8,8,8,8,8,8,8,8,8,8,8,8,8,8,8,8,8,8,8,8,8]:N):Int)) then
  let t0:Int:=((List.getD ([0,1,2,2,3,3,3,3,4,4,4,4,4,4,4,4,5,5,5,5,5,5,5,5,5,5,5,5,5,5,5,5,6,6,6,6,6,6,6,6,6,6,6,6,6,6,6,6,6,6,6,6,6,6,6,6,6,6,6,6,6,6,6,6,7,7,7,7,7,7,7,7,7,7,7,7,7,7,7,7,7,7,7,7,7,7,7,7,7,7,7,7,7,7,7,7,7,7,7,7,7,7,7,7,7,7,7,7,7,7,7,7,7,7,7,7,7,7,7,7,7,7,7,7,7,7,7,7,8,8,8,8,8,8,8,8,8,8,8,8,8,8,8,8,8,8,8,8,8,8,8,8,8,8,8,8,8,8,8,8,8,8,8,8,8,8,8,8,8,8,8,8,8,8,8,8,8,8,8,8,8,8,8,8,8,8,8,8,8,8,8,8,8,8,8,8,8,8,8,8,8,8,8,8,8,8,8,8,8,8,8,8,8,8,8,8,8,8,8,8,8,8,8,8,8,8,8,8,8,8,8,8,8,8,8,8,8,8,8,8,8,8,8,8,8,8,8,8,8,8,8,8,8,8,8,8]:N) (Int.toNat (IntKind.u8.wrap d.1)) 0).toNat:Int)
  let t1:=i64.wrap (d.2.1+(i64.wrap t0))
  some (t1,())
 else none
def Jo (d:lW):O (Int×H):=
 bif d.1>=256 then
  let t0:Int:=(Int.fdiv d.1 (2^(min (Int.toNat 8) IntKind.u64.bits)))
  yL (t0,(i64.wrap (d.2.1+8)),())
 else
  yL (d.1,d.2.1,())
def yK (d:lW):O (Int×H):=
 bif d.1>=65536 then
  let t0:Int:=(Int.fdiv d.1 (2^(min (Int.toNat 16) IntKind.u64.bits)))
  Jo (t0,(i64.wrap (d.2.1+16)),())
 else
  Jo (d.1,d.2.1,())
def TX (d:Int×H):O (Int×H):=
 let t0:=decide (d.1>=4294967296)
 bif t0 then
  let t1:Int:=(Int.fdiv d.1 (2^(min (Int.toNat 32) IntKind.u64.bits)))
  yK (t1,32,())
 else
  yK (d.1,0,())
def zn (d:Int×H):O (Int×H):=
 match TX (d.1,()) with
 |none=>none
 |some aa=>
  some (aa.1,())
def Jn (d:aK):O (Int×H):=
 match yY (d.1,()) with
 |none=>none
 |some aa=>
  match yY (d.2.1,()) with
  |none=>none
  |some ah=>
   bif aa.1 then
    bif ah.1 then
     some (0,())
    else
     some ((-1:Int),())
   else
    bif ah.1 then
     some (1,())
    else
     bif (Op.bytesLess d.1 d.2.1) then
      some ((-1:Int),())
     else
      let t2:=(!(Op.bytesLess d.1 d.2.1||decide ((d.1:N)=d.2.1)))
      bif t2 then
       some (1,())
      else
       some (0,())
def ld (d:uz):O (Int×H):=
 match Jn (d.1.1,d.2.1.1,()) with
 |none=>none
 |some aa=>
  some (aa.1,())
def BV (d:UU):O (l7⊕(eZ⊕H)):=
 bif d.2.2.2.2.1 then
  let t0:=i64.wrap (d.2.2.2.1-1)
  let t1:=i64.wrap (d.2.2.2.1-1)
  bif 0<=t1&&t1<(d.2.2.2.2.2.1.length:Int) then
   let t2:=(d.2.2.2.2.2.1.getD (t1.toNat) ([],([],())))
   bif 0<=d.2.2.2.1&&d.2.2.2.1<(d.2.2.2.2.2.1.length:Int) then
    let t3:=(d.2.2.2.2.2.1.getD (d.2.2.2.1.toNat) ([],([],())))
    bif 0<=d.2.2.2.1&&d.2.2.2.1<(d.2.2.2.2.2.1.length:Int) then
     let t4:=(List.set d.2.2.2.2.2.1 (d.2.2.2.1.toNat) t2)
     bif 0<=t0&&t0<(t4.length:Int) then
      let t5:=i64.wrap (d.2.2.2.1-1)
      some (.inl (d.1,d.2.1,d.2.2.1,t5,(List.set t4 (t0.toNat) t3),()))
     else none
    else none
   else none
  else none
 else
  some (.inr (.inl (d.1,d.2.1,d.2.2.1,d.2.2.2.2.2.1,())))
end D
