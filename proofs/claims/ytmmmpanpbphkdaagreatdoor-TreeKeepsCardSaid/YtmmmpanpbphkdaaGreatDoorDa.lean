import Derived.Test.YtmmmpanpbphkdaaGreatDoorXD
set_option linter.unusedVariables false
open Go Go.X
open Go.IntKind (i64)
namespace D
abbrev bG (p:Prop) [Decidable p]:Prop:=decide p=true
abbrev az5 (p:Prop) [Decidable p]:Prop:=decide p=false
abbrev N:=List UInt8
abbrev H:=Unit
abbrev O (α:Type):=Option α
abbrev bo:=List N
abbrev ct:=List Int
abbrev dA:=List Nat
abbrev lS:Type:=Int×Int×H
abbrev iN:Type:=N×Int×H
abbrev bi:Type:=Int×Int×Int×H
abbrev l4:=List bi
abbrev tT:Type:=lS×H
abbrev aL:Type:=N×N×H
abbrev au:=List aL
abbrev ck:Type:=N×N×Int×H
abbrev aj:=List ck
abbrev j2:Type:=N×Int×Int×N×H
abbrev eR:Type:=lS×lS×H
abbrev hs:=List eR
abbrev ql:Type:=ck×Bool×Int×Int×H
abbrev JL:Type:=Bool×Bool×ck×N×Bool×Int×H
abbrev bH:Type:=Int×N×N×aL×N×N×Int×H
abbrev cD:=List bH
abbrev cE:Type:=aj×bo×ct×hs×cD×H
abbrev cK:=List cE
abbrev fg:Type:=l4×((List (Int×Int×Int×Int×Int×Int×H))×(List (Int×Int×Int×Int×Int×Int×H))×(List (Int×Int×Int×Int×Int×Int×H))×(List (Int×Int×Int×Int×Int×Int×H))×H)×Int×H
abbrev iM:Type:=Bool×Bool×Int×cE×H
abbrev b9:=List iM
abbrev bB:Type:=b9×H
abbrev fh:Type:=bB×Int×H
abbrev qc:Type:=bB×Int×Int×H
abbrev cQ:Type:=bB×Int×bi×H
@[reducible] def iX:aB:=(.pair (.int .i64) (.pair (.int .i64) .unit))
@[reducible] def FM:aB:=(.pair (.int .i64) iX)
@[reducible] def abM:aB:=(.pair iX .unit)
@[reducible] def ac:aB:=(.pair .str (.pair .str .unit))
@[reducible] def bx:aB:=(.pair .str (.pair .str (.pair (.int .i64) .unit)))
@[reducible] def hF:aB:=(.pair .str (.pair (.int .i64) (.pair (.int .i64) (.pair .str .unit))))
@[reducible] def eJ:aB:=(.pair iX abM)
@[reducible] def at9:aB:=(.pair .str (.pair .bool (.pair .bool (.pair .str (.pair .bool (.pair (.int .i64) .unit))))))
@[reducible] def asw:aB:=(.pair bx (.pair .bool iX))
@[reducible] def Jx:aB:=(.pair (.pair .str .unit) (.pair hF .unit))
@[reducible] def j0:aB:=(.pair .bool (.pair .bool (.pair bx (.pair .str (.pair .bool (.pair (.int .i64) .unit))))))
@[reducible] def dw:aB:=(.pair (.int .i64) (.pair .str (.pair .str (.pair ac bx))))
@[reducible] def et:aB:=(.pair (.list bx) (.pair (.list .str) (.pair (.list (.int .i64)) (.pair (.list eJ) (.pair (.list dw) .unit)))))
@[reducible] def mY:aB:=(.pair (.list (.pair (.int .u8) (.pair (.int .u8) (.pair (.int .u8) .unit)))) (.pair (.pair (.list (.pair (.int .u8) (.pair (.int .u8) (.pair (.int .u8) (.pair (.int .u8) (.pair (.int .u8) (.pair (.int .u8) .unit))))))) (.pair (.list (.pair (.int .u8) (.pair (.int .u8) (.pair (.int .u8) (.pair (.int .u8) (.pair (.int .u8) (.pair (.int .u8) .unit))))))) (.pair (.list (.pair (.int .u8) (.pair (.int .u8) (.pair (.int .u8) (.pair (.int .u8) (.pair (.int .u8) (.pair (.int .u8) .unit))))))) (.pair (.list (.pair (.int .u8) (.pair (.int .u8) (.pair (.int .u8) (.pair (.int .u8) (.pair (.int .u8) (.pair (.int .u8) .unit))))))) .unit)))) (.pair (.int .u8) .unit)))
@[reducible] def iB:aB:=(.pair .bool (.pair .bool (.pair (.int .i64) (.pair et .unit))))
@[reducible] def dk:aB:=(.pair (.list iB) .unit)
@[reducible] def fN:aB:=(.pair dk (.pair (.int .i64) .unit))
@[reducible] def kH:aB:=(.pair dk iX)
@[reducible] def ht:aB:=(.pair dk (.pair (.int .i64) (.pair FM .unit)))
abbrev Uw:Type:=N×N×N×(Int×Int×Int×Int×Int×Int×H)×Int×N×N×N×N×N×N×Int×aL×H
abbrev Ux:Type:=Int×Int×cD×Bool×Bool×N×N×Int×N×Bool×Int×Bool×Bool×N×N×Int×N×Bool×Int×H
abbrev KN:Type:=aj×(List bo)×Int×bB×aL×fg×b9×Int×aj×cD×au×bo×ct×hs×H
abbrev EU:Type:=Int×cD×Bool×Bool×N×N×Int×N×Bool×Int×Bool×Bool×N×N×Int×N×Bool×Int×H
abbrev KO:Type:=Bool×Int×Bool×Bool×N×N×Int×N×Bool×Int×Bool×Bool×N×N×Int×N×Bool×Int×H
abbrev EV:Type:=aj×(List bo)×Int×bB×aL×fg×b9×Int×bo×H
abbrev KP:Type:=Int×b9×Int×aj×qc×bB×bo×ct×hs×cD×H
abbrev Ua:Type:=au×Int×Int×au×Int×Int×au×aL×au×H
abbrev EW:Type:=aj×(List bo)×bB×aL×fg×b9×Int×bo×H
abbrev Ub:Type:=Int×Int×Bool×Int×Int×aL×au×bB×Int×aj×aj×H
abbrev KQ:Type:=aj×au×Int×Int×bB×Int×cE×aL×au×H
abbrev RK:Type:=aj×Int×Int×bB×Int×cE×au×au×aj×H
abbrev Uc:Type:=hs×Int×Int×cE×Int×Int×Int×Int×Int×Int×Int×Int×H
abbrev ur:Type:=Int×Int×Int×Int×aL×au×bB×Int×aj×aj×H
abbrev Ud:Type:=N×Int×List JL×cQ×N×N×Int×Bool×Int×H
abbrev wV:Type:=bH×Bool×Bool×N×N×Int×N×Bool×Int×H
abbrev Ue:Type:=N×bo×Int×Int×aL×au×H
abbrev KR:Type:=(List (Int×Int×Int×Int×Int×Int×H))×Int×Int×cD×H
abbrev zZ:Type:=cD×Int×Int×Int×Int×Int×Int×Int×Int×Int×Int×H
abbrev Uf:Type:=N×bo×Int×Int×cE×aL×H
abbrev Ug:Type:=bo×N×Int×aL×au×H
abbrev Uh:Type:=Int×Int×Int×Bool×Bool×Int×Int×Bool×au×H
abbrev Ui:Type:=Int×Int×Int×au×bH×aL×au×H
abbrev Uj:Type:=Int×Bool×N×N×Int×Int×N×H
abbrev mP:Type:=bB×aj×aL×(List bo)×fg×H
abbrev Uk:Type:=Int×Int×Int×Bool×Bool×Int×Int×au×H
abbrev KK:Type:=au×Int×Int×au×au×H
abbrev mO:Type:=Int×Int×aL×au×bB×Int×aj×H
abbrev KL:Type:=Int×ct×Int×Int×bB×Bool×ct×Int×H
abbrev KM:Type:=N×Int×N×Int×Int×N×H
abbrev T8:Type:=N×au×Int×Int×au×H
abbrev T9:Type:=(List aj)×Int×(List aj)×Int×Int×H
abbrev E9:Type:=Int×Int×Int×Int×bB×cE×au×H
abbrev UA:Type:=Int×Int×cE×b9×Int×Int×b9×H
abbrev UB:Type:=N×N×Int×bo×H
abbrev UC:Type:=bo×N×Int×Int×Int×H
abbrev UD:Type:=ct×Int×Int×Int×Bool×bB×ct×H
abbrev Fa:Type:=Int×cE×Int×Int×Int×Int×eR×H
abbrev Ab:Type:=N×N×Int×Int×N×H
abbrev Ac:Type:=N×N×N×ct×H
abbrev Fb:Type:=Bool×j2×N×Int×Int×N×H
abbrev UF:Type:=ct×Int×Int×bB×cE×b9×H
abbrev UG:Type:=Int×ct×Int×Int×b9×b9×H
abbrev nq:Type:=cE×aL×au×bB×Int×H
abbrev UH:Type:=N×N×Int×Int×aj×H
abbrev qC:Type:=Int×Int×Int×Bool×Bool×au×H
abbrev UI:Type:=Int×Int×Int×Int×Bool×au×H
abbrev w1:Type:=Int×Int×Int×Int×Int×au×H
abbrev K6:Type:=Int×Int×Int×Int×au×Int×H
abbrev UJ:Type:=aj×Int×Int×Int×Int×Int×Int×H
abbrev UK:Type:=aj×Bool×Int×Bool×ck×aj×H
abbrev K7:Type:=N×Int×N×N×H
abbrev UL:Type:=ct×Int×Int×cE×aL×H
abbrev Ad:Type:=Int×bB×cE×b9×Int×Int×H
abbrev Fc:Type:=Int×Int×au×au×H
abbrev KZ:Type:=Int×Int×aL×cD×cD×H
abbrev Uz:Type:=Bool×Int×cQ×aj×cD×cQ×H
abbrev E5:Type:=aj×au×Int×aj×H
abbrev l5:Type:=Int×Int×Int×Int×au×H
abbrev E6:Type:=Int×Int×au×aL×H
abbrev pH:Type:=aj×Bool×Int×ck×aj×H
abbrev E7:Type:=Int×Int×aj×au×H
abbrev oX:Type:=Int×Int×Int×Int×Int×Int×H
abbrev qB:Type:=Int×bB×Bool×ct×Int×H
abbrev K0:Type:=Int×List JL×ck×Bool×Int×H
abbrev eX:Type:=Int×Int×Int×au×H
abbrev Aa:Type:=N×N×Bool×H
abbrev K1:Type:=au×au×H
abbrev E8:Type:=Int×cD×au×H
abbrev K2:Type:=Int×bB×cE×aj×H
abbrev r8:Type:=aj×aj×aj×H
abbrev l6:Type:=Int×Int×au×H
abbrev K3:Type:=Int×au×Int×H
abbrev r9:Type:=bB×Int×aL×Int×H
abbrev sa:Type:=au×aL×H
abbrev K4:Type:=l4×Int×aj×H
abbrev w0:Type:=aj×au×H
abbrev K5:Type:=N×Int×Bool×H
abbrev KW:Type:=N×Int×Int×H
abbrev KX:Type:=aL×N×H
abbrev E4:Type:=aj×N×H
abbrev KY:Type:=Bool×bB×ct×H
abbrev uw:Type:=aL×aL×H
abbrev z8:Type:=cE×aL×H
abbrev wX:Type:=aj×aL×H
abbrev Ae:Type:=aj×aj×H
abbrev w2:Type:=N×Bool×H
abbrev w3:Type:=bH×aj×H
abbrev Af:Type:=Int×Bool×H
def qg (d:aL):O (Bool×H):=
 let t0:=(!decide ((d.1:N)=[]))
 bif t0 then
  let t1:=decide ((d.2.1:N)=[])
  bif !t1 then
   some ((Op.bytesLess d.1 d.2.1),())
  else
   some (true,())
 else
  some (false,())
def mZ (d:aL×H):O (Bool×H):=
 let t0:=(!decide ((d.1.2.1:N)=[]))
 bif t0 then
  let t1:=(Op.bytesLess d.1.2.1 d.1.1||decide ((d.1.2.1:N)=d.1.1))
  some (t1,())
 else
  some (false,())
def Oa (d:H):O (aL×H):=
 some ((([97]:N),(([97]:N),())),())
def J9 (d:N×N×N×N×H):O (aL×H):=
 match mZ ((d.2.2.1,(d.2.2.2.1,())),()) with
 |none=>none
 |some aa=>
  bif aa.1 then
   match Oa (()) with
   |none=>none
   |some ag=>
    some (ag.1,())
  else
   some ((d.2.2.1,(d.2.2.2.1,())),())
def Ay (d:uw):O (aL×H):=
 let t0:N:=(bif !(Op.bytesLess d.1.1 d.2.1.1) then d.1.1 else d.2.1.1)
 match qg (d.2.1.2.1,d.1.2.1,()) with
 |none=>none
 |some ag=>
  bif ag.1 then
   J9 ([],[],t0,d.2.1.2.1,())
  else
   J9 ([],[],t0,d.1.2.1,())
def Dy (d:Ug):O (Ug⊕((N×aL×au×H)⊕H)):=
 let t0:=(decide (d.2.2.1<((d.1.length):Int)))
 bif t0 then
  bif 0<=d.2.2.1&&d.2.2.1<(d.1.length:Int) then
   let t1:=(d.1.getD (d.2.2.1.toNat) [])
   match Ay (d.2.2.2.1,(d.2.1,(t1,())),()) with
   |none=>none
   |some aS=>
    bif ((d.2.2.2.2.1.length+List.length ([aS.1]:au))*32<=am) then
     let t3:au:=(d.2.2.2.2.1++([aS.1]:au))
     bif 0<=d.2.2.1&&d.2.2.1<(d.1.length:Int) then
      let t4:=(d.1.getD (d.2.2.1.toNat) [])
      some (.inl (d.1,t4,(i64.wrap (d.2.2.1+1)),d.2.2.2.1,t3,()))
     else none
    else none
  else none
 else
  some (.inr (.inl (d.2.1,d.2.2.2.1,d.2.2.2.2.1,())))
def L1:=b6 Dy
def zq (d:aL×bo×H):O (au×H):=
 match L1 (d.2.1,[],0,d.1,[],()) with
 |none=>none
 |some (.inl z0)=>
  match Ay (z0.2.1,(z0.1,([],())),()) with
  |none=>none
  |some ag=>
   bif ((z0.2.2.1.length+List.length ([ag.1]:au))*32<=am) then
    let t2:au:=(z0.2.2.1++([ag.1]:au))
    some (t2,())
   else none
 |some (.inr z0)=>
  none
def EC (d:z8):O (au×H):=
 let t0:=(decide ((((d.1.2.2.1.length):Int):Int)=0))
 bif t0 then
  some ([],())
 else
  match zq (d.2.1,d.1.2.1,()) with
  |none=>none
  |some ag=>
   some (ag.1,())
def AJ (d:KX):O (Bool×H):=
 bif (!(Op.bytesLess d.2.1 d.1.1)) then
  let t0:=decide ((d.1.2.1:N)=[])
  bif !t0 then
   some ((Op.bytesLess d.2.1 d.1.2.1),())
  else
   some (true,())
 else
  some (false,())
def Dz (d:aj×Int×aL×aj×H):O ((aj×Int×aL×aj×H)⊕((aj×H)⊕H)):=
 let t0:=(decide (d.2.1<((d.1.length):Int)))
 bif t0 then
  bif 0<=d.2.1&&d.2.1<(d.1.length:Int) then
   let t1:=(d.1.getD (d.2.1.toNat) ([],([],(0,()))))
   match AJ (d.2.2.1,t1.1,()) with
   |none=>none
   |some aS=>
    bif aS.1 then
     bif 0<=d.2.1&&d.2.1<(d.1.length:Int) then
      let t3:=(d.1.getD (d.2.1.toNat) ([],([],(0,()))))
      bif ((d.2.2.2.1.length+List.length ([t3]:aj))*40<=am) then
       let t4:aj:=(d.2.2.2.1++([t3]:aj))
       some (.inl (d.1,(i64.wrap (d.2.1+1)),d.2.2.1,t4,()))
      else none
     else none
    else
     some (.inl (d.1,(i64.wrap (d.2.1+1)),d.2.2.1,d.2.2.2.1,()))
  else none
 else
  some (.inr (.inl (d.2.2.2.1,())))
def L2:=b6 Dz
def Fv (d:wX):O (aj×H):=
 match L2 (d.1,0,d.2.1,[],()) with
 |none=>none
 |some (.inl z0)=>
  some (z0.1,())
 |some (.inr z0)=>
  none
def zH (d:fh):O (Bool×H):=
 bif d.2.1>=0 then
  let t0:=(decide (d.2.1<((d.1.1.length):Int)))
  bif t0 then
   bif 0<=d.2.1&&d.2.1<(d.1.1.length:Int) then
    let t1:=(d.1.1.getD (d.2.1.toNat) (false,(false,(0,(([],([],([],([],([],()))))),())))))
    some (t1.1,())
   else none
  else
   some (false,())
 else
  some (false,())
def Ei (d:bB×H):O bB:=
 bif ((List.length ([]:b9)+d.1.1.length)*136<=am) then
  let t0:b9:=([]++d.1.1)
  some (t0,())
 else none
def wt (d:Ad):O (Ad⊕(qc⊕(bB×cE×b9×Int×Int×H))):=
 let t0:=(decide (d.1<((d.2.2.1.2.2.1.length):Int)))
 bif t0 then
  bif 0<=d.1&&d.1<(d.2.2.1.2.2.1.length:Int) then
   let t1:=(d.2.2.1.2.2.1.getD (d.1.toNat) 0)
   match zH (d.2.1,t1,()) with
   |none=>none
   |some aS=>
    bif !aS.1 then
     some (.inr (.inl (d.2.1,0,110,())))
    else
     some (.inl ((i64.wrap (d.1+1)),d.2.1,d.2.2.1,d.2.2.2.1,d.2.2.2.2.1,d.2.2.2.2.2.1,()))
  else none
 else
  some (.inr (.inr (d.2.1,d.2.2.1,d.2.2.2.1,d.2.2.2.2.1,d.2.2.2.2.2.1,())))
def Nw:=b6 wt
def Eg (d:Ad):O (Ad⊕(Ad⊕H)):=
 let t0:=(decide (d.1<((d.2.1.1.length):Int)))
 bif t0 then
  bif 0<=d.1&&d.1<(d.2.1.1.length:Int) then
   let t1:=(d.2.1.1.getD (d.1.toNat) (false,(false,(0,(([],([],([],([],([],()))))),())))))
   bif t1.1 then
    some (.inl ((i64.wrap (d.1+1)),d.2.1,d.2.2.1,d.2.2.2.1,d.2.2.2.2.1,d.2.2.2.2.2.1,()))
   else
    some (.inr (.inl (d.1,d.2.1,d.2.2.1,d.2.2.2.1,d.2.2.2.2.1,d.2.2.2.2.2.1,())))
  else none
 else
  some (.inr (.inl (d.1,d.2.1,d.2.2.1,d.2.2.2.1,d.2.2.2.2.1,d.2.2.2.2.2.1,())))
def Nx:=b6 Eg
def Eh (d:UA):O (UA⊕((Int×b9×Int×Int×b9×H)⊕H)):=
 let t0:=(decide (d.2.1<((d.2.2.1.2.2.1.length):Int)))
 bif t0 then
  bif 0<=d.2.1&&d.2.1<(d.2.2.1.2.2.1.length:Int) then
   let t1:=(d.2.2.1.2.2.1.getD (d.2.1.toNat) 0)
   bif 0<=t1&&t1<(d.2.2.2.2.2.2.1.length:Int) then
    let t2:=(d.2.2.2.2.2.2.1.getD (t1.toNat) (false,(false,(0,(([],([],([],([],([],()))))),())))))
    let t3:=i64.wrap (t2.2.2.1+1)
    bif 0<=t1&&t1<(d.2.2.2.2.2.2.1.length:Int) then
     let t4:=(List.set d.2.2.2.2.2.2.1 (t1.toNat) ((d.2.2.2.2.2.2.1.getD (t1.toNat) (false,(false,(0,(([],([],([],([],([],()))))),()))))).1,((d.2.2.2.2.2.2.1.getD (t1.toNat) (false,(false,(0,(([],([],([],([],([],()))))),()))))).2.1,(t3,(d.2.2.2.2.2.2.1.getD (t1.toNat) (false,(false,(0,(([],([],([],([],([],()))))),()))))).2.2.2))))
     some (.inl (d.1,(i64.wrap (d.2.1+1)),d.2.2.1,d.2.2.2.1,d.2.2.2.2.1,d.2.2.2.2.2.1,t4,()))
    else none
   else none
  else none
 else
  some (.inr (.inl (d.1,d.2.2.2.1,d.2.2.2.2.1,d.2.2.2.2.2.1,d.2.2.2.2.2.2.1,())))
def Ny:=b6 Eh
def Nv (d:Int×cE×b9×Int×Int×b9×H):O (qc×H):=
 bif 0<=d.1&&d.1<(d.2.2.2.2.2.1.length:Int) then
  let t0:=(List.set d.2.2.2.2.2.1 (d.1.toNat) (true,(false,(1,(d.2.1,())))))
  match Ny (d.1,0,d.2.1,d.2.2.1,d.2.2.2.1,d.2.2.2.2.1,t0,()) with
  |none=>none
  |some (.inl aD)=>
   some (((aD.2.2.2.2.1,()),(aD.1,(0,()))),())
  |some (.inr aD)=>
   none
 else none
def tV (d:bB×cE×H):O (qc×H):=
 match Nw (0,d.1,d.2.1,[],0,0,()) with
 |none=>none
 |some (.inl z0)=>
  some ((z0.1,(z0.2.1,(z0.2.2.1,()))),())
 |some (.inr z0)=>
  match Nx (0,z0.1,z0.2.1,z0.2.2.1,z0.2.2.2.1,z0.2.2.2.2.1,()) with
  |none=>none
  |some (.inl aD)=>
   bif aD.1>=4096 then
    some ((aD.2.1,(0,(111,()))),())
   else
    match Ei (aD.2.1,()) with
    |none=>none
    |some aS=>
     let t3:=(decide (aD.1=((aS.1.length):Int)))
     bif t3 then
      bif ((aS.1.length+List.length ([(false,(false,(0,(([],([],([],([],([],()))))),()))))]:b9))*136<=am) then
       let t4:b9:=(aS.1++([(false,(false,(0,(([],([],([],([],([],()))))),()))))]:b9))
       Nv (aD.1,aD.2.2.1,aD.2.2.2.1,aD.2.2.2.2.1,aD.2.2.2.2.2.1,t4,())
      else none
     else
      Nv (aD.1,aD.2.2.1,aD.2.2.2.1,aD.2.2.2.2.1,aD.2.2.2.2.2.1,aS.1,())
  |some (.inr aD)=>
   none
def AA (d:eR×eR×H):O (eR×H):=
 let t0:Int:=(if ((i64.wrap (d.1.1.1+d.2.1.1.1)):Int)<1000000000000000 then (i64.wrap (d.1.1.1+d.2.1.1.1)) else 1000000000000000)
 let t1:=i64.wrap (d.1.1.2.1+d.2.1.1.2.1)
 let t2:Int:=(if (t1:Int)<1000000000000000 then t1 else 1000000000000000)
 let t3:=i64.wrap (d.1.2.1.1+d.2.1.2.1.1)
 let t4:Int:=(if (t3:Int)<1000000000000000 then t3 else 1000000000000000)
 let t5:=i64.wrap (d.1.2.1.2.1+d.2.1.2.1.2.1)
 let t6:Int:=(if (t5:Int)<1000000000000000 then t5 else 1000000000000000)
 some (((t0,(t2,())),((t4,(t6,())),())),())
def L0 (d:N×Int×Bool×N×Int×Int×N×N×Int×Int×N×H):O (j2×H):=
 bif d.2.2.1 then
  bif (1:Int)<=d.2.1&&d.2.1<=(d.1.length:Int) then
   let t0:=(List.drop (Int.toNat 1) (List.take (d.2.1.toNat) d.1))
   some ((t0,(4,(d.2.2.2.2.2.2.2.2.2.1,(d.2.2.2.2.2.2.2.2.2.2.1,())))),())
  else none
 else
  some ((d.2.2.2.2.2.2.2.1,(d.2.2.2.2.2.2.2.2.1,(d.2.2.2.2.2.2.2.2.2.1,(d.2.2.2.2.2.2.2.2.2.2.1,())))),())
def Yu (d:N×Int×N×Int×Int×N×N×Int×Int×N×H):O (j2×H):=
 let t0:=decide (d.2.2.2.2.2.2.2.1=1)
 bif t0 then
  bif d.2.1>0 then
   bif (0:Int)<(d.1.length:Int) then
    let t1:=(decide ((((d.1.getD 0 0).toNat:Int):Int)=6))
    L0 (d.1,d.2.1,t1,d.2.2.1,d.2.2.2.1,d.2.2.2.2.1,d.2.2.2.2.2.1,d.2.2.2.2.2.2.1,d.2.2.2.2.2.2.2.1,d.2.2.2.2.2.2.2.2.1,d.2.2.2.2.2.2.2.2.2.1,())
   else none
  else
   L0 (d.1,d.2.1,false,d.2.2.1,d.2.2.2.1,d.2.2.2.2.1,d.2.2.2.2.2.1,d.2.2.2.2.2.2.1,d.2.2.2.2.2.2.2.1,d.2.2.2.2.2.2.2.2.1,d.2.2.2.2.2.2.2.2.2.1,())
 else
  L0 (d.1,d.2.1,false,d.2.2.1,d.2.2.2.1,d.2.2.2.2.1,d.2.2.2.2.2.1,d.2.2.2.2.2.2.1,d.2.2.2.2.2.2.2.1,d.2.2.2.2.2.2.2.2.1,d.2.2.2.2.2.2.2.2.2.1,())
def Yt (d:N×Int×N×N×Int×Int×N×N×Int×Int×N×H):O (j2×H):=
 let t0:=decide (d.2.2.2.2.2.2.2.2.1=3)
 bif t0 then
  Yu (d.1,d.2.1,d.2.2.2.1,d.2.2.2.2.1,d.2.2.2.2.2.1,d.2.2.2.2.2.2.1,d.2.2.2.2.2.2.2.1,d.2.2.2.2.2.2.2.2.1,d.2.2.2.2.2.2.2.2.2.1,d.2.2.1,())
 else
  Yu (d.1,d.2.1,d.2.2.2.1,d.2.2.2.2.1,d.2.2.2.2.2.1,d.2.2.2.2.2.2.1,d.2.2.2.2.2.2.2.1,d.2.2.2.2.2.2.2.2.1,d.2.2.2.2.2.2.2.2.2.1,d.2.2.2.2.2.2.2.2.2.2.1,())
def Yv (d:N×Int×N×Bool×N×Int×Int×N×N×Int×Int×N×H):O (j2×H):=
 bif d.2.2.2.1 then
  bif (0:Int)<(d.2.2.1.length:Int) then
   let t0:=i64.wrap ((d.2.2.1.getD 0 0).toNat:Int)
   bif (1:Int)<(d.2.2.1.length:Int) then
    let t1:Int:=((d.2.2.1.getD (Int.toNat 1) 0).toNat:Int)
    let t2:=(i64.wrap ((i64.wrap (256*t0))+(i64.wrap t1)))
    Yt (d.1,d.2.1,d.2.2.1,d.2.2.2.2.1,d.2.2.2.2.2.1,d.2.2.2.2.2.2.1,d.2.2.2.2.2.2.2.1,d.2.2.2.2.2.2.2.2.1,d.2.2.2.2.2.2.2.2.2.1,t2,d.2.2.2.2.2.2.2.2.2.2.2.1,())
   else none
  else none
 else
  Yt (d.1,d.2.1,d.2.2.1,d.2.2.2.2.1,d.2.2.2.2.2.1,d.2.2.2.2.2.2.1,d.2.2.2.2.2.2.2.1,d.2.2.2.2.2.2.2.2.1,d.2.2.2.2.2.2.2.2.2.1,d.2.2.2.2.2.2.2.2.2.2.1,d.2.2.2.2.2.2.2.2.2.2.2.1,())
def aaX (d:iN):O (j2×H):=
 bif (0:Int)<=d.2.1&&d.2.1<=(d.1.length:Int) then
  let t0:=(List.drop 0 (List.take (d.2.1.toNat) d.1))
  bif 0<=d.2.1&&d.2.1<(d.1.length:Int) then
   let t1:Int:=((d.1.getD (d.2.1.toNat) 0).toNat:Int)
   bif (0<=(i64.wrap (d.2.1+1))&&((i64.wrap (d.2.1+1)):Int)<=(d.1.length:Int)&&((d.1.length:Int):Int)<=(d.1.length:Int)) then
    let t2:=(List.drop (Int.toNat (i64.wrap (d.2.1+1))) (List.take (Int.toNat (d.1.length:Int)) d.1))
    let t3:=(decide (((i64.wrap t1):Int)=2))
    bif t3 then
     let t4:=(decide ((((t2.length):Int):Int)=2))
     Yv (d.1,d.2.1,t2,t4,[],0,0,[],t0,(i64.wrap t1),0,[],())
    else
     Yv (d.1,d.2.1,t2,false,[],0,0,[],t0,(i64.wrap t1),0,[],())
   else none
  else none
 else none
def XO (d:UB):O (UB⊕((N×bo×H)⊕H)):=
 let t0:=(decide (d.2.2.1<((d.1.length):Int)))
 bif t0 then
  bif 0<=d.2.2.1&&d.2.2.1<(d.1.length:Int) then
   let t1:Int:=((d.1.getD (d.2.2.1.toNat) 0).toNat:Int)
   bif t1=47 then
    bif ((d.2.2.2.1.length+List.length ([d.2.1]:bo))*16<=am) then
     let t2:bo:=(d.2.2.2.1++([d.2.1]:bo))
     some (.inl (d.1,[],(i64.wrap (d.2.2.1+1)),t2,()))
    else none
   else
    bif (0<=d.2.2.1&&d.2.2.1<=(i64.wrap (d.2.2.1+1))&&((i64.wrap (d.2.2.1+1)):Int)<=(d.1.length:Int)) then
     let t2:=(List.drop (d.2.2.1.toNat) (List.take (Int.toNat (i64.wrap (d.2.2.1+1))) d.1))
     bif d.2.1.length+t2.length<=am then
      some (.inl (d.1,(d.2.1++t2),(i64.wrap (d.2.2.1+1)),d.2.2.2.1,()))
     else none
    else none
  else none
 else
  some (.inr (.inl (d.2.1,d.2.2.2.1,())))
def XQ:=b6 XO
def aaW (d:N×H):O (Bool×bo×H):=
 match XQ (d.1,[],0,[],()) with
 |none=>none
 |some (.inl z0)=>
  let t1:=decide ((z0.1:N)=[])
  some (t1,z0.2.1,())
 |some (.inr z0)=>
  none
def Y1 (d:iN):O (iN⊕((Bool×H)⊕H)):=
 let t0:=(decide (d.2.1<((d.1.length):Int)))
 bif t0 then
  bif 0<=d.2.1&&d.2.1<(d.1.length:Int) then
   let t1:Int:=((d.1.getD (d.2.1.toNat) 0).toNat:Int)
   bif (!(decide (t1<33))) then
    bif 0<=d.2.1&&d.2.1<(d.1.length:Int) then
     let t2:Int:=((d.1.getD (d.2.1.toNat) 0).toNat:Int)
     bif (!(decide (t2>126))) then
      bif 0<=d.2.1&&d.2.1<(d.1.length:Int) then
       let t3:Int:=((d.1.getD (d.2.1.toNat) 0).toNat:Int)
       bif t3=47 then
        some (.inr (.inl (false,())))
       else
        some (.inl (d.1,(i64.wrap (d.2.1+1)),()))
      else none
     else
      some (.inr (.inl (false,())))
    else none
   else
    some (.inr (.inl (false,())))
  else none
 else
  some (.inr (.inr (())))
def Y3:=b6 Y1
def N9 (d:N×H):O (Bool×H):=
 let t0:=(decide ((((d.1.length):Int):Int)<1))
 bif !t0 then
  let t1:=(decide ((((d.1.length):Int):Int)>12))
  bif !t1 then
   let t2:=decide ((d.1:N)=([46]:N))
   bif !t2 then
    let t3:=decide ((d.1:N)=([46,46]:N))
    bif t3 then
     some (false,())
    else
     match Y3 (d.1,0,()) with
     |none=>none
     |some (.inl z4)=>
      some (z4.1,())
     |some (.inr z4)=>
      some (true,())
   else
    some (false,())
  else
   some (false,())
 else
  some (false,())
def Yq (d:Bool×Int×bo×H):O ((Bool×Int×bo×H)⊕((Bool×H)⊕(Bool×H))):=
 let t0:=(decide (d.2.1<((d.2.2.1.length):Int)))
 bif t0 then
  bif 0<=d.2.1&&d.2.1<(d.2.2.1.length:Int) then
   let t1:=(d.2.2.1.getD (d.2.1.toNat) [])
   match N9 (t1,()) with
   |none=>none
   |some aS=>
    bif !aS.1 then
     some (.inr (.inl (false,())))
    else
     some (.inl (d.1,(i64.wrap (d.2.1+1)),d.2.2.1,()))
  else none
 else
  some (.inr (.inr (d.1,())))
def Ys:=b6 Yq
def EA (d:N×H):O (Bool×H):=
 match aaW (d.1,()) with
 |none=>none
 |some aa=>
  match Ys (aa.1,0,aa.2.1,()) with
  |none=>none
  |some (.inl aD)=>
   some (aD.1,())
  |some (.inr aD)=>
   some (aD.1,())
def ZS (d:Int×N×Int×H):O ((Int×N×Int×H)⊕((N×H)⊕H)):=
 bif d.2.2.1<8 then
  let t0:=i64.wrap ((Int.tmod d.1 16)+1)
  bif (0<=(Int.tmod d.1 16)&&((Int.tmod d.1 16):Int)<=t0&&t0<=(List.length ([48,49,50,51,52,53,54,55,56,57,97,98,99,100,101,102]:N):Int)) then
   let t1:=(List.drop (Int.toNat (Int.tmod d.1 16)) (List.take (t0.toNat) ([48,49,50,51,52,53,54,55,56,57,97,98,99,100,101,102]:N)))
   bif t1.length+d.2.1.length<=am then
    let t2:=i64.wrap (Int.tdiv d.1 16)
    some (.inl (t2,(t1++d.2.1),(i64.wrap (d.2.2.1+1)),()))
   else none
  else none
 else
  some (.inr (.inl (d.2.1,())))
def Y0:=b6 ZS
def YZ (d:Af):O (N×H):=
 bif d.2.1 then
  some ([],())
 else
  match Y0 (d.1,[],0,()) with
  |none=>none
  |some (.inl z0)=>
   bif List.length ([5]:N)+z0.1.length<=am then
    bif (List.length (([5]:N)++z0.1)+List.length ([47]:N)<=am) then
     let t1:N:=((([5]:N)++z0.1)++([47]:N))
     some (t1,())
    else none
   else none
  |some (.inr z0)=>
   none
def abv (d:Int×H):O (N×H):=
 bif (!(decide (d.1<0))) then
  let t0:=decide (d.1>2147483647)
  YZ (d.1,t0,())
 else
  YZ (d.1,true,())
def VX (d:N×Int×Int×Int×Bool×H):O (KW⊕(iN⊕H)):=
 bif d.2.2.2.2.1 then
  let t0:=(i64.wrap ((i64.wrap (16*d.2.1))+d.2.2.2.1))
  some (.inl (d.1,(i64.wrap (t0-48)),(i64.wrap (d.2.2.1+1)),()))
 else
  let t0:=(i64.wrap ((i64.wrap (16*d.2.1))+d.2.2.2.1))
  let t1:=(i64.wrap ((i64.wrap (t0-97))+10))
  some (.inl (d.1,t1,(i64.wrap (d.2.2.1+1)),()))
def Xy (d:KW):O (KW⊕(iN⊕H)):=
 bif d.2.2.1<9 then
  bif 0<=d.2.2.1&&d.2.2.1<(d.1.length:Int) then
   let t0:Int:=((d.1.getD (d.2.2.1.toNat) 0).toNat:Int)
   let t1:=(decide (((i64.wrap t0):Int)>=48))
   bif t1 then
    let t2:=(decide (((i64.wrap t0):Int)<=57))
    VX (d.1,d.2.1,d.2.2.1,(i64.wrap t0),t2,())
   else
    VX (d.1,d.2.1,d.2.2.1,(i64.wrap t0),false,())
  else none
 else
  some (.inr (.inl (d.1,d.2.1,())))
def XA:=b6 Xy
def Kl (d:N×H):O (Bool×H):=
 let t0:=(!decide ((((d.1.length):Int):Int)=10))
 bif t0 then
  some (false,())
 else
  match XA (d.1,0,1,()) with
  |none=>none
  |some (.inl aD)=>
   match abv (aD.2.1,()) with
   |none=>none
   |some aS=>
    some ((decide ((aS.1:N)=aD.1)),())
  |some (.inr aD)=>
   none
def lD (d:Bool×j2×H):O ((j2×H)⊕(Bool×H)):=
 bif d.1 then
  some (.inr (false,()))
 else
  some (.inl (d.2.1,()))
def yR (d:j2×H):O ((Bool×H)⊕H):=
 bif d.1.2.1=4 then
  match EA (d.1.1,()) with
  |none=>none
  |some aa=>
   some (.inl (aa.1,()))
 else
  some (.inl (false,()))
def lE (d:j2×H):O ((Bool×H)⊕H):=
 bif d.1.2.1=1 then
  some (.inl (true,()))
 else
  bif d.1.2.1=2 then
   bif d.1.2.2.1>=0 then
    let t0:=decide (d.1.2.2.1<=60000)
    some (.inl (t0,()))
   else
    some (.inl (false,()))
  else
   bif d.1.2.1=3 then
    match N9 (d.1.2.2.2.1,()) with
    |none=>none
    |some aa=>
     some (.inl (aa.1,()))
   else
    match yR (d.1,()) with
    |none=>none
    |some (.inl z0)=>
     some (.inl (z0.1,()))
    |some (.inr z0)=>
     none
def aaY (d:j2×H):O (Bool×H):=
 match EA (d.1.1,()) with
 |none=>none
 |some aa=>
  bif !aa.1 then
   match Kl (d.1.1,()) with
   |none=>none
   |some ag=>
    bif (!(!ag.1)) then
     bif (!(d.1.2.1=2)) then
      let t2:=(!decide (d.1.2.2.1=0))
      bif !t2 then
       bif (!(d.1.2.1=3)) then
        let t3:=(!decide ((d.1.2.2.2.1:N)=[]))
        match lD (t3,d.1,()) with
        |none=>none
        |some (.inl z4)=>
         match lE (z4.1,()) with
         |none=>none
         |some (.inl z5)=>
          some (z5.1,())
         |some (.inr z5)=>
          none
        |some (.inr z4)=>
         some (z4.1,())
       else
        match lD (false,d.1,()) with
        |none=>none
        |some (.inl z3)=>
         match lE (z3.1,()) with
         |none=>none
         |some (.inl z4)=>
          some (z4.1,())
         |some (.inr z4)=>
          none
        |some (.inr z3)=>
         some (z3.1,())
      else
       match lD (true,d.1,()) with
       |none=>none
       |some (.inl z3)=>
        match lE (z3.1,()) with
        |none=>none
        |some (.inl z4)=>
         some (z4.1,())
        |some (.inr z4)=>
         none
       |some (.inr z3)=>
        some (z3.1,())
     else
      bif (!(d.1.2.1=3)) then
       let t2:=(!decide ((d.1.2.2.2.1:N)=[]))
       match lD (t2,d.1,()) with
       |none=>none
       |some (.inl z3)=>
        match lE (z3.1,()) with
        |none=>none
        |some (.inl z4)=>
         some (z4.1,())
        |some (.inr z4)=>
         none
       |some (.inr z3)=>
        some (z3.1,())
      else
       match lD (false,d.1,()) with
       |none=>none
       |some (.inl z2)=>
        match lE (z2.1,()) with
        |none=>none
        |some (.inl z3)=>
         some (z3.1,())
        |some (.inr z3)=>
         none
       |some (.inr z2)=>
        some (z2.1,())
    else
     match lD (true,d.1,()) with
     |none=>none
     |some (.inl z2)=>
      match lE (z2.1,()) with
      |none=>none
      |some (.inl z3)=>
       some (z3.1,())
      |some (.inr z3)=>
       none
     |some (.inr z2)=>
      some (z2.1,())
  else
   bif (!(d.1.2.1=2)) then
    let t1:=(!decide (d.1.2.2.1=0))
    bif !t1 then
     bif (!(d.1.2.1=3)) then
      let t2:=(!decide ((d.1.2.2.2.1:N)=[]))
      match lD (t2,d.1,()) with
      |none=>none
      |some (.inl z3)=>
       match lE (z3.1,()) with
       |none=>none
       |some (.inl z4)=>
        some (z4.1,())
       |some (.inr z4)=>
        none
      |some (.inr z3)=>
       some (z3.1,())
     else
      match lD (false,d.1,()) with
      |none=>none
      |some (.inl z2)=>
       match lE (z2.1,()) with
       |none=>none
       |some (.inl z3)=>
        some (z3.1,())
       |some (.inr z3)=>
        none
      |some (.inr z2)=>
       some (z2.1,())
    else
     match lD (true,d.1,()) with
     |none=>none
     |some (.inl z2)=>
      match lE (z2.1,()) with
      |none=>none
      |some (.inl z3)=>
       some (z3.1,())
      |some (.inr z3)=>
       none
     |some (.inr z2)=>
      some (z2.1,())
   else
    bif (!(d.1.2.1=3)) then
     let t1:=(!decide ((d.1.2.2.2.1:N)=[]))
     match lD (t1,d.1,()) with
     |none=>none
     |some (.inl z2)=>
      match lE (z2.1,()) with
      |none=>none
      |some (.inl z3)=>
       some (z3.1,())
      |some (.inr z3)=>
       none
     |some (.inr z2)=>
      some (z2.1,())
    else
     match lD (false,d.1,()) with
     |none=>none
     |some (.inl aD)=>
      match lE (aD.1,()) with
      |none=>none
      |some (.inl z2)=>
       some (z2.1,())
      |some (.inr z2)=>
       none
     |some (.inr aD)=>
      some (aD.1,())
def acf (d:j2×H):O iN:=
 match aaY (d.1,()) with
 |none=>none
 |some aa=>
  bif !aa.1 then
   some ([],12,())
  else
   bif d.1.2.1=1 then
    bif d.1.1.length+List.length ([1]:N)<=am then
     some ((d.1.1++([1]:N)),0,())
    else none
   else
    bif d.1.2.1=2 then
     bif d.1.1.length+List.length ([2]:N)<=am then
      let t1:=i64.wrap (Int.tdiv d.1.2.2.1 256)
      let t2:=(IntKind.u8.wrap (Int.tmod d.1.2.2.1 256))
      let t3:N:=(uf ([(IntKind.u8.wrap t1),t2]:ct))
      bif (List.length (d.1.1++([2]:N))+t3.length<=am) then
       some (((d.1.1++([2]:N))++t3),0,())
      else none
     else none
    else
     bif d.1.2.1=3 then
      bif d.1.1.length+List.length ([3]:N)<=am then
       bif (List.length (d.1.1++([3]:N))+d.1.2.2.2.1.length<=am) then
        let t1:N:=((d.1.1++([3]:N))++d.1.2.2.2.1)
        some (t1,0,())
       else none
      else none
     else
      bif List.length ([6]:N)+d.1.1.length<=am then
       bif (List.length (([6]:N)++d.1.1)+List.length ([1]:N)<=am) then
        let t1:N:=((([6]:N)++d.1.1)++([1]:N))
        some (t1,0,())
       else none
      else none
def VS (d:N×Int×Bool×N×Int×Int×N×H):O (KM⊕((Int×j2×H)⊕j2)):=
 bif d.2.2.1 then
  some (.inl (d.1,(i64.wrap (d.2.1+1)),d.2.2.2.1,d.2.2.2.2.1,d.2.2.2.2.2.1,d.2.2.2.2.2.2.1,()))
 else
  match aaX (d.1,d.2.1,()) with
  |none=>none
  |some aa=>
   match acf (aa.1,()) with
   |none=>none
   |some ag=>
    bif ag.2.1=0 then
     bif (ag.1:N)=d.1 then
      some (.inr (.inl (0,aa.1,())))
     else
      some (.inl (d.1,(i64.wrap (d.2.1+1)),d.2.2.2.1,d.2.2.2.2.1,d.2.2.2.2.2.1,d.2.2.2.2.2.2.1,()))
    else
     some (.inl (d.1,(i64.wrap (d.2.1+1)),d.2.2.2.1,d.2.2.2.2.1,d.2.2.2.2.2.1,d.2.2.2.2.2.2.1,()))
def XR (d:KM):O (KM⊕((Int×j2×H)⊕j2)):=
 let t0:=(decide (d.2.1<((d.1.length):Int)))
 bif t0 then
  bif 0<=d.2.1&&d.2.1<(d.1.length:Int) then
   let t1:Int:=((d.1.getD (d.2.1.toNat) 0).toNat:Int)
   bif (!(decide (t1<1))) then
    bif 0<=d.2.1&&d.2.1<(d.1.length:Int) then
     let t2:Int:=((d.1.getD (d.2.1.toNat) 0).toNat:Int)
     VS (d.1,d.2.1,(decide (t2>3)),d.2.2.1,d.2.2.2.1,d.2.2.2.2.1,d.2.2.2.2.2.1,())
    else none
   else
    VS (d.1,d.2.1,true,d.2.2.1,d.2.2.2.1,d.2.2.2.2.1,d.2.2.2.2.2.1,())
  else none
 else
  some (.inr (.inr (d.2.2.1,d.2.2.2.1,d.2.2.2.2.1,d.2.2.2.2.2.1,())))
def Yo:=b6 XR
def tx (d:N×H):O (j2×Int×H):=
 match Yo (d.1,0,[],0,0,[],()) with
 |none=>none
 |some (.inl z0)=>
  some (z0.2.1,z0.1,())
 |some (.inr z0)=>
  some (([],(0,(0,([],())))),12,())
def tm (d:N×H):O (Bool×H):=
 match tx (d.1,()) with
 |none=>none
 |some aa=>
  bif aa.2.1=0 then
   some ((decide (aa.1.2.1=1)),())
  else
   some (false,())
def rC (d:lS×Int×H):O tT:=
 let t0:Int:=(if ((i64.wrap (d.1.2.1+d.2.1)):Int)<1000000000000000 then (i64.wrap (d.1.2.1+d.2.1)) else 1000000000000000)
 some ((d.1.1,(t0,())),())
def tC (d:lS×Int×H):O tT:=
 let t0:Int:=(if (0:Int)<(i64.wrap (d.1.1-d.2.1)) then (i64.wrap (d.1.1-d.2.1)) else 0)
 some ((t0,(d.1.2.1,())),())
def JW (d:N×N×Bool×Bool×H):O (Bool×H):=
 bif !d.2.2.1 then
  bif !d.2.2.2.1 then
   match Kl (d.1,()) with
   |none=>none
   |some aa=>
    bif aa.1 then
     match Kl (d.2.1,()) with
     |none=>none
     |some ag=>
      some (ag.1,())
    else
     some (false,())
  else
   some (true,())
 else
  some (true,())
def wn (d:Aa):O (Bool×H):=
 let t0:=(!decide ((d.1:N)=[]))
 bif t0 then
  let t1:=(!decide ((d.2.1:N)=[]))
  bif t1 then
   match EA (d.1,()) with
   |none=>none
   |some aS=>
    bif aS.1 then
     match EA (d.2.1,()) with
     |none=>none
     |some bP=>
      JW (d.1,d.2.1,d.2.2.1,bP.1,())
    else
     JW (d.1,d.2.1,d.2.2.1,false,())
  else
   JW (d.1,d.2.1,d.2.2.1,false,())
 else
  JW (d.1,d.2.1,d.2.2.1,false,())
def tM (d:aL):O (Bool×H):=
 let t0:=(decide ((((d.1.length):Int):Int)>0))
 bif t0 then
  bif (0:Int)<(d.1.length:Int) then
   let t1:=(decide ((((d.1.getD 0 0).toNat:Int):Int)=6))
   bif t1 then
    let t2:=(decide ((((d.2.1.length):Int):Int)>0))
    bif t2 then
     bif (0:Int)<(d.2.1.length:Int) then
      let t3:=(decide ((((d.2.1.getD 0 0).toNat:Int):Int)=6))
      wn (d.1,d.2.1,t3,())
     else none
    else
     wn (d.1,d.2.1,false,())
   else
    wn (d.1,d.2.1,false,())
  else none
 else
  wn (d.1,d.2.1,false,())
def k7 (d:eR×bH×H):O (eR×H):=
 bif d.2.1.1=1 then
  match tm (d.2.1.2.1,()) with
  |none=>none
  |some aa=>
   bif aa.1 then
    match rC (d.1.1,1,()) with
    |none=>none
    |some ag=>
     some ((ag.1,(d.1.2.1,())),())
   else
    match tC (d.1.2.1,64,()) with
    |none=>none
    |some ag=>
     match rC (ag.1,((d.2.1.2.2.1.length):Int),()) with
     |none=>none
     |some aS=>
      some ((d.1.1,(aS.1,())),())
 else
  bif d.2.1.1=2 then
   match tm (d.2.1.2.1,()) with
   |none=>none
   |some aa=>
    bif aa.1 then
     match tC (d.1.1,1,()) with
     |none=>none
     |some ag=>
      some ((ag.1,(d.1.2.1,())),())
    else
     match tC (d.1.2.1,64,()) with
     |none=>none
     |some ag=>
      some ((d.1.1,(ag.1,())),())
  else
   bif d.2.1.1=6 then
    some (d.1,())
   else
    bif d.2.1.1=3 then
     some (((0,(d.1.1.2.1,())),((0,(d.1.2.1.2.1,())),())),())
    else
     match tM (d.2.1.2.2.2.2.1,d.2.1.2.2.2.2.2.1,()) with
     |none=>none
     |some aa=>
      bif !aa.1 then
       some (((0,(1000000000000000,())),((0,(1000000000000000,())),())),())
      else
       bif d.2.1.1=5 then
        match rC ((0,(d.1.1.2.1,())),d.1.1.2.1,()) with
        |none=>none
        |some ag=>
         match rC ((0,(d.1.2.1.2.1,())),d.1.2.1.2.1,()) with
         |none=>none
         |some aS=>
          some ((ag.1,(aS.1,())),())
       else
        some (((0,(d.1.1.2.1,())),((0,(d.1.2.1.2.1,())),())),())
def zg (d:ck×H):O tT:=
 match tx (d.1.1,()) with
 |none=>none
 |some aa=>
  bif (!(aa.2.1=0)) then
   some ((0,(0,())),())
  else
   bif aa.1.2.1=1 then
    some ((1,(0,())),())
   else
    bif aa.1.2.1=2 then
     some ((0,(((d.1.2.1.length):Int),())),())
    else
     bif aa.1.2.1=3 then
      some ((0,(((d.1.2.1.length):Int),())),())
     else
      some ((0,(0,())),())
def tg (d:aj×Int×Int×Int×Int×Int×H):O ((aj×Int×Int×Int×Int×Int×H)⊕((Int×Int×Int×Int×H)⊕H)):=
 let t0:=(decide (d.2.1<((d.1.length):Int)))
 bif t0 then
  bif 0<=d.2.1&&d.2.1<(d.1.length:Int) then
   let t1:=(d.1.getD (d.2.1.toNat) ([],([],(0,()))))
   match zg (t1,()) with
   |none=>none
   |some aS=>
    let t3:=i64.wrap (d.2.2.2.2.1+aS.1.1)
    let t4:=i64.wrap (d.2.2.2.2.2.1+aS.1.2.1)
    some (.inl (d.1,(i64.wrap (d.2.1+1)),d.2.2.1,d.2.2.2.1,t3,t4,()))
  else none
 else
  some (.inr (.inl (d.2.2.1,d.2.2.2.1,d.2.2.2.2.1,d.2.2.2.2.2.1,())))
def JS:=b6 tg
def zr (d:aj×H):O tT:=
 match JS (d.1,0,0,0,0,0,()) with
 |none=>none
 |some (.inl z0)=>
  some ((z0.2.2.1,(z0.2.2.2.1,())),())
 |some (.inr z0)=>
  none
def Fw (d:tT):O (eR×H):=
 some (((d.1.1,(d.1.1,())),((d.1.2.1,(d.1.2.1,())),())),())
def tq (d:Fa):O (Fa⊕((cE×Int×Int×Int×Int×eR×H)⊕H)):=
 let t0:=(decide (d.1<((d.2.1.2.2.2.1.length):Int)))
 bif t0 then
  bif 0<=d.1&&d.1<(d.2.1.2.2.2.1.length:Int) then
   let t1:=(d.2.1.2.2.2.1.getD (d.1.toNat) ((0,(0,())),((0,(0,())),())))
   match AA (d.2.2.2.2.2.2.1,t1,()) with
   |none=>none
   |some aS=>
    some (.inl ((i64.wrap (d.1+1)),d.2.1,d.2.2.1,d.2.2.2.1,d.2.2.2.2.1,d.2.2.2.2.2.1,aS.1,()))
  else none
 else
  some (.inr (.inl (d.2.1,d.2.2.1,d.2.2.2.1,d.2.2.2.2.1,d.2.2.2.2.2.1,d.2.2.2.2.2.2.1,())))
def Ko:=b6 tq
def tr (d:Fa):O (Fa⊕((Int×Int×Int×Int×eR×H)⊕H)):=
 let t0:=(decide (d.1<((d.2.1.2.2.2.2.1.length):Int)))
 bif t0 then
  bif 0<=d.1&&d.1<(d.2.1.2.2.2.2.1.length:Int) then
   let t1:=(d.2.1.2.2.2.2.1.getD (d.1.toNat) (0,([],([],(([],([],())),([],([],(0,()))))))))
   match k7 (d.2.2.2.2.2.2.1,t1,()) with
   |none=>none
   |some aS=>
    some (.inl ((i64.wrap (d.1+1)),d.2.1,d.2.2.1,d.2.2.2.1,d.2.2.2.2.1,d.2.2.2.2.2.1,aS.1,()))
  else none
 else
  some (.inr (.inl (d.2.2.1,d.2.2.2.1,d.2.2.2.2.1,d.2.2.2.2.2.1,d.2.2.2.2.2.2.1,())))
def Kp:=b6 tr
def nc (d:cE×H):O (eR×H):=
 let t0:=(decide ((((d.1.2.2.1.length):Int):Int)=0))
 bif t0 then
  match zr (d.1.1,()) with
  |none=>none
  |some ag=>
   match Fw (ag.1,()) with
   |none=>none
   |some aS=>
    some (aS.1,())
 else
  match Ko (0,d.1,0,0,0,0,((0,(0,())),((0,(0,())),())),()) with
  |none=>none
  |some (.inl aD)=>
   match Kp (0,aD.1,aD.2.1,aD.2.2.1,aD.2.2.2.1,aD.2.2.2.2.1,aD.2.2.2.2.2.1,()) with
   |none=>none
   |some (.inl z2)=>
    some (z2.2.2.2.2.1,())
   |some (.inr z2)=>
    none
  |some (.inr aD)=>
   none
def Kc (d:Int×b9×H):O (Bool×b9×H):=
 bif d.1>=0 then
  let t0:=(decide (d.1<((d.2.1.length):Int)))
  bif t0 then
   bif 0<=d.1&&d.1<(d.2.1.length:Int) then
    let t1:=(d.2.1.getD (d.1.toNat) (false,(false,(0,(([],([],([],([],([],()))))),())))))
    some (t1.1,d.2.1,())
   else none
  else
   some (false,d.2.1,())
 else
  some (false,d.2.1,())
def DZ (d:ct×b9×b9×H):O ((ct×b9×b9×H)⊕((b9×b9×H)⊕H)):=
 let t0:=(decide ((((d.1.length):Int):Int)>0))
 bif t0 then
  bif (0:Int)<(d.1.length:Int) then
   bif ((1:Int)<=(d.1.length:Int)&&((d.1.length:Int):Int)<=(d.1.length:Int)) then
    let t1:=(List.drop (Int.toNat 1) (List.take (Int.toNat (d.1.length:Int)) d.1))
    match Kc ((d.1.getD 0 0),d.2.2.1,()) with
    |none=>none
    |some aS=>
     bif !aS.1 then
      some (.inl (t1,d.2.1,aS.2.1,()))
     else
      bif (0<=(d.1.getD 0 0)&&((d.1.getD 0 0):Int)<(aS.2.1.length:Int)) then
       let t3:=(aS.2.1.getD (Int.toNat (d.1.getD 0 0)) (false,(false,(0,(([],([],([],([],([],()))))),())))))
       let t4:=i64.wrap (t3.2.2.1-1)
       bif (0<=(d.1.getD 0 0)&&((d.1.getD 0 0):Int)<(aS.2.1.length:Int)) then
        let t5:=(List.set aS.2.1 (Int.toNat (d.1.getD 0 0)) ((aS.2.1.getD (Int.toNat (d.1.getD 0 0)) (false,(false,(0,(([],([],([],([],([],()))))),()))))).1,((aS.2.1.getD (Int.toNat (d.1.getD 0 0)) (false,(false,(0,(([],([],([],([],([],()))))),()))))).2.1,(t4,(aS.2.1.getD (Int.toNat (d.1.getD 0 0)) (false,(false,(0,(([],([],([],([],([],()))))),()))))).2.2.2))))
        bif (0<=(d.1.getD 0 0)&&((d.1.getD 0 0):Int)<(t5.length:Int)) then
         let t6:=(t5.getD (Int.toNat (d.1.getD 0 0)) (false,(false,(0,(([],([],([],([],([],()))))),())))))
         bif t6.2.2.1=0 then
          bif ((List.length ([]:ct)+t1.length)*8<=am) then
           bif (0<=(d.1.getD 0 0)&&((d.1.getD 0 0):Int)<(t5.length:Int)) then
            let t7:=(t5.getD (Int.toNat (d.1.getD 0 0)) (false,(false,(0,(([],([],([],([],([],()))))),())))))
            bif ((List.length ([]++t1)+t7.2.2.2.1.2.2.1.length)*8<=am) then
             let t8:ct:=(([]++t1)++t7.2.2.2.1.2.2.1)
             bif (0<=(d.1.getD 0 0)&&((d.1.getD 0 0):Int)<(t5.length:Int)) then
              let t9:=(List.set t5 (Int.toNat (d.1.getD 0 0)) (false,(false,(0,(([],([],([],([],([],()))))),())))))
              some (.inl (t8,d.2.1,t9,()))
             else none
            else none
           else none
          else none
         else
          some (.inl (t1,d.2.1,t5,()))
        else none
       else none
      else none
   else none
  else none
 else
  some (.inr (.inl (d.2.1,d.2.2.1,())))
def MB:=b6 DZ
def zG (d:fh):O fh:=
 match zH (d.1,d.2.1,()) with
 |none=>none
 |some aa=>
  bif !aa.1 then
   some (d.1,110,())
  else
   match Ei (d.1,()) with
   |none=>none
   |some ag=>
    match MB (([d.2.1]:ct),[],ag.1,()) with
    |none=>none
    |some (.inl z2)=>
     some ((z2.2.1,()),0,())
    |some (.inr z2)=>
     none
def mt (d:fh):O (Bool×H):=
 bif d.2.1>=0 then
  let t0:=(decide (d.2.1<((d.1.1.length):Int)))
  bif t0 then
   bif 0<=d.2.1&&d.2.1<(d.1.1.length:Int) then
    let t1:=(d.1.1.getD (d.2.1.toNat) (false,(false,(0,(([],([],([],([],([],()))))),())))))
    some (t1.1,())
   else none
  else
   some (false,())
 else
  some (false,())
def ik (d:fh):O (cE×Int×H):=
 match mt (d.1,d.2.1,()) with
 |none=>none
 |some aa=>
  bif !aa.1 then
   some (([],([],([],([],([],()))))),110,())
  else
   bif 0<=d.2.1&&d.2.1<(d.1.1.length:Int) then
    let t1:=(d.1.1.getD (d.2.1.toNat) (false,(false,(0,(([],([],([],([],([],()))))),())))))
    bif t1.2.1 then
     some (([],([],([],([],([],()))))),112,())
    else
     bif 0<=d.2.1&&d.2.1<(d.1.1.length:Int) then
      let t2:=(d.1.1.getD (d.2.1.toNat) (false,(false,(0,(([],([],([],([],([],()))))),())))))
      some (t2.2.2.2.1,0,())
     else none
   else none
def vF (d:N×H):O (Bool×H):=
 some ((!decide ((d.1:N)=d.1)),())
def C9 (d:aL):O (Int×H):=
 match vF (d.1,()) with
 |none=>none
 |some aa=>
  match vF (d.2.1,()) with
  |none=>none
  |some ag=>
   bif aa.1 then
    bif ag.1 then
     some (0,())
    else
     some ((-1:Int),())
   else
    bif ag.1 then
     some (1,())
    else
     bif (Op.bytesLess d.1 d.2.1) then
      some ((-1:Int),())
     else
      let t2:=(!(Op.bytesLess d.1 d.2.1||decide ((d.1:N)=d.2.1)))
      bif t2 then
       some (1,())
      else
       some (0,())
def pT (d:aL):O (Int×H):=
 bif (d.1:N)=d.2.1 then
  some (0,())
 else
  let t0:=decide ((d.1:N)=[])
  bif t0 then
   some (1,())
  else
   let t1:=decide ((d.2.1:N)=[])
   bif t1 then
    some ((-1:Int),())
   else
    match C9 (d.1,d.2.1,()) with
    |none=>none
    |some aS=>
     some (aS.1,())
def xO (d:bo×N×Int×H):O ((bo×N×Int×H)⊕((N×H)⊕H)):=
 let t0:=(decide (d.2.2.1<((d.1.length):Int)))
 bif t0 then
  bif 0<=d.2.2.1&&d.2.2.1<(d.1.length:Int) then
   let t1:=(d.1.getD (d.2.2.1.toNat) [])
   match pT (t1,d.2.1,()) with
   |none=>none
   |some aS=>
    bif aS.1<0 then
     bif 0<=d.2.2.1&&d.2.2.1<(d.1.length:Int) then
      let t3:=(d.1.getD (d.2.2.1.toNat) [])
      some (.inl (d.1,t3,(i64.wrap (d.2.2.1+1)),()))
     else none
    else
     some (.inl (d.1,d.2.1,(i64.wrap (d.2.2.1+1)),()))
  else none
 else
  some (.inr (.inl (d.2.1,())))
def ii:=b6 xO
def Sl (d:bo×H):O (N×H):=
 let t0:=(decide ((((d.1.length):Int):Int)<1))
 bif t0 then
  none
 else
  bif (0:Int)<(d.1.length:Int) then
   match ii (d.1,(d.1.getD 0 []),1,()) with
   |none=>none
   |some (.inl aD)=>
    some (aD.1,())
   |some (.inr aD)=>
    none
  else none
def FW (d:bo×H):O (N×H):=
 match Sl (d.1,()) with
 |none=>none
 |some aa=>
  some (aa.1,())
def la (d:aL×H):O (Bool×H):=
 let t0:=(!decide ((d.1.2.1:N)=[]))
 bif t0 then
  let t1:=(Op.bytesLess d.1.2.1 d.1.1||decide ((d.1.2.1:N)=d.1.1))
  some (t1,())
 else
  some (false,())
def tW (d:uw):O (aL×H):=
 let t0:N:=(bif !(Op.bytesLess d.1.1 d.2.1.1) then d.1.1 else d.2.1.1)
 match FW (([d.1.2.1,d.2.1.2.1]:bo),()) with
 |none=>none
 |some ag=>
  match la ((t0,(ag.1,())),()) with
  |none=>none
  |some aS=>
   bif aS.1 then
    some ((([97]:N),(([97]:N),())),())
   else
    some ((t0,(ag.1,())),())
def Zi (d:Ue):O (Ue⊕((N×aL×au×H)⊕H)):=
 bif d.2.2.2.1<d.2.2.1 then
  bif 0<=d.2.2.2.1&&d.2.2.2.1<(d.2.1.length:Int) then
   let t0:=(d.2.1.getD (d.2.2.2.1.toNat) [])
   match tW (d.2.2.2.2.1,(d.1,(t0,())),()) with
   |none=>none
   |some ag=>
    bif ((d.2.2.2.2.2.1.length+List.length ([ag.1]:au))*32<=am) then
     let t2:au:=(d.2.2.2.2.2.1++([ag.1]:au))
     let t3:=i64.wrap (d.2.2.2.1+1)
     some (.inl (t0,d.2.1,d.2.2.1,t3,d.2.2.2.2.1,t2,()))
    else none
  else none
 else
  some (.inr (.inl (d.1,d.2.2.2.2.1,d.2.2.2.2.2.1,())))
def Zk:=b6 Zi
def rR (d:aL×bo×H):O (au×H):=
 match Zk ([],d.2.1,((d.2.1.length):Int),0,d.1,[],()) with
 |none=>none
 |some (.inl z0)=>
  match tW (z0.2.1,(z0.1,([],())),()) with
  |none=>none
  |some ag=>
   bif ((z0.2.2.1.length+List.length ([ag.1]:au))*32<=am) then
    let t2:au:=(z0.2.2.1++([ag.1]:au))
    some (t2,())
   else none
 |some (.inr z0)=>
  none
def Av (d:z8):O (au×H):=
 let t0:=(decide ((((d.1.2.2.1.length):Int):Int)=0))
 bif t0 then
  some ([],())
 else
  match rR (d.2.1,d.1.2.1,()) with
  |none=>none
  |some ag=>
   some (ag.1,())
def qq (d:N×H):O (aL×H):=
 bif d.1.length+List.length ([0]:N)<=am then
  some ((d.1,((d.1++([0]:N)),())),())
 else none
def LA (d:bH×H):O (au×H):=
 match qq (d.1.2.1,()) with
 |none=>none
 |some aa=>
  some (([aa.1]:au),())
def Lu (d:bH×H):O (au×H):=
 match qq (d.1.2.1,()) with
 |none=>none
 |some aa=>
  some (([aa.1]:au),())
def TK (d:bH×H):O (au×H):=
 some (([d.1.2.2.2.1]:au),())
def VU (d:N×Bool×N×N×ct×H):O (Ac⊕(Ac⊕H)):=
 bif d.2.1 then
  let t0:=(i64.wrap (((d.2.2.2.2.1.length):Int)-1))
  bif (0:Int)<=t0&&t0<=(d.2.2.2.2.1.length:Int) then
   some (.inl (d.1,d.2.2.1,d.2.2.2.1,(List.take (t0.toNat) d.2.2.2.2.1),()))
  else none
 else
  some (.inr (.inl (d.1,d.2.2.1,d.2.2.2.1,d.2.2.2.2.1,())))
def YE (d:Ac):O (Ac⊕(Ac⊕H)):=
 let t0:=(decide ((((d.2.2.2.1.length):Int):Int)>0))
 bif t0 then
  let t1:=(i64.wrap (((d.2.2.2.1.length):Int)-1))
  bif 0<=t1&&t1<(d.2.2.2.1.length:Int) then
   let t2:=(d.2.2.2.1.getD (t1.toNat) 0)
   VU (d.1,(decide (t2=255)),d.2.1,d.2.2.1,d.2.2.2.1,())
  else none
 else
  VU (d.1,false,d.2.1,d.2.2.1,d.2.2.2.1,())
def YG:=b6 YE
def lX (d:N×H):O (aL×H):=
 bif d.1.length<=am then
  match YG (d.1,[],[],(j8 d.1),()) with
  |none=>none
  |some (.inl z0)=>
   let t1:=(decide ((((z0.2.2.2.1.length):Int):Int)>0))
   bif t1 then
    let t2:=(i64.wrap (((z0.2.2.2.1.length):Int)-1))
    bif 0<=t2&&t2<(z0.2.2.2.1.length:Int) then
     let t3:=(z0.2.2.2.1.getD (t2.toNat) 0)
     bif 0<=t2&&t2<(z0.2.2.2.1.length:Int) then
      let t4:=(List.set z0.2.2.2.1 (t2.toNat) (IntKind.u8.wrap (t3+1)))
      some ((z0.1,((uf t4),())),())
     else none
    else none
   else
    some ((z0.1,((uf z0.2.2.2.1),())),())
  |some (.inr z0)=>
   none
 else none
def TL (d:bH×H):O (au×H):=
 match lX (d.1.2.2.2.2.1,()) with
 |none=>none
 |some aa=>
  match lX (d.1.2.2.2.2.2.1,()) with
  |none=>none
  |some ag=>
   some (([aa.1,ag.1]:au),())
def Tq (d:bH×H):O (au×H):=
 match lX (d.1.2.2.2.2.2.1,()) with
 |none=>none
 |some aa=>
  some (([aa.1]:au),())
def Tr (d:bH×H):O (au×H):=
 some (([d.1.2.2.2.1]:au),())
def qf (d:bH×H):O (au×H):=
 bif d.1.1=1 then
  match LA (d.1,()) with
  |none=>none
  |some aa=>
   some (aa.1,())
 else
  bif d.1.1=2 then
   match Lu (d.1,()) with
   |none=>none
   |some aa=>
    some (aa.1,())
  else
   bif d.1.1=3 then
    match TK (d.1,()) with
    |none=>none
    |some aa=>
     some (aa.1,())
   else
    bif d.1.1=4 then
     match TL (d.1,()) with
     |none=>none
     |some aa=>
      some (aa.1,())
    else
     bif d.1.1=5 then
      match Tq (d.1,()) with
      |none=>none
      |some aa=>
       some (aa.1,())
     else
      bif d.1.1=6 then
       match Tr (d.1,()) with
       |none=>none
       |some aa=>
        some (aa.1,())
      else
       some ([],())
def tX (d:cE×H):O (Bool×H):=
 let t0:=(decide ((((d.1.2.2.1.length):Int):Int)=0))
 some (t0,())
def Sn (d:aL):O (Int×H):=some ((fun a b=>Lib.compareBytes a b) d.1 d.2.1,())
def TU (d:aL):O (Int×H):=
 match Sn (d.1,d.2.1,()) with
 |none=>none
 |some aa=>
  some (aa.1,())
def D4 (d:ck×N×H):O (Int×H):=
 match TU (d.1.1,d.2.1,()) with
 |none=>none
 |some aa=>
  some (aa.1,())
def Hc (d:aj×N×Int×Int×Int×H):O ((aj×N×Int×Int×Int×H)⊕((aj×N×Int×Int×H)⊕H)):=
 let t0:=decide (d.2.2.2.1<d.2.2.2.2.1)
 bif t0 then
  let t1:=i64.wrap (d.2.2.2.1+d.2.2.2.2.1)
  let t2:Int:=(Int.fdiv (IntKind.u64.wrap t1) (2^(min (Int.toNat 1) IntKind.u64.bits)))
  bif (0<=(i64.wrap t2)&&((i64.wrap t2):Int)<(d.1.length:Int)) then
   let t3:=(d.1.getD (Int.toNat (i64.wrap t2)) ([],([],(0,()))))
   match D4 (t3,d.2.1,()) with
   |none=>none
   |some dz=>
    bif dz.1<0 then
     let t5:=i64.wrap ((i64.wrap t2)+1)
     some (.inl (d.1,d.2.1,d.2.2.1,t5,d.2.2.2.2.1,()))
    else
     some (.inl (d.1,d.2.1,d.2.2.1,d.2.2.2.1,(i64.wrap t2),()))
  else none
 else
  some (.inr (.inl (d.1,d.2.1,d.2.2.1,d.2.2.2.1,())))
def P3:=b6 Hc
def Hd (d:E4):O Af:=
 match P3 (d.1,d.2.1,((d.1.length):Int),0,((d.1.length):Int),()) with
 |none=>none
 |some (.inl z0)=>
  bif z0.2.2.2.1<z0.2.2.1 then
   bif 0<=z0.2.2.2.1&&z0.2.2.2.1<(z0.1.length:Int) then
    let t1:=(z0.1.getD (z0.2.2.2.1.toNat) ([],([],(0,()))))
    match D4 (t1,z0.2.1,()) with
    |none=>none
    |some aS=>
     some (z0.2.2.2.1,(decide (aS.1=0)),())
   else none
  else
   some (z0.2.2.2.1,false,())
 |some (.inr z0)=>
  none
def wu (d:E4):O Af:=
 match Hd (d.1,d.2.1,()) with
 |none=>none
 |some aa=>
  some (aa.1,aa.2.1,())
def abL (d:E4):O (ck×Bool×H):=
 match wu (d.1,d.2.1,()) with
 |none=>none
 |some aa=>
  bif aa.2.1 then
   bif 0<=aa.1&&aa.1<(d.1.length:Int) then
    let t1:=(d.1.getD (aa.1.toNat) ([],([],(0,()))))
    some (t1,true,())
   else none
  else
   some (([],([],(0,()))),false,())
def HV (d:cD×H):O (cD×H):=
 some (d.1,())
def pz (d:KX):O (Bool×H):=
 bif (!(Op.bytesLess d.2.1 d.1.1)) then
  let t0:=decide ((d.1.2.1:N)=[])
  bif !t0 then
   some ((Op.bytesLess d.2.1 d.1.2.1),())
  else
   some (true,())
 else
  some (false,())
def NT (d:Int×Bool×Bool×N×N×Int×N×Bool×Int×H):O (Bool×Bool×N×N×Int×N×Bool×Int×H):=
 bif !d.2.2.2.2.2.2.2.1 then
  some (d.2.1,d.2.2.1,d.2.2.2.1,d.2.2.2.2.1,d.2.2.2.2.2.1,d.2.2.2.2.2.2.1,true,d.1,())
 else
  some (d.2.1,d.2.2.1,d.2.2.2.1,d.2.2.2.2.1,d.2.2.2.2.2.1,d.2.2.2.2.2.2.1,d.2.2.2.2.2.2.2.1,d.2.2.2.2.2.2.2.2.1,())
def Zr (d:wV):O (Bool×Bool×Bool×N×N×Int×N×Bool×Int×H):=
 match pz (d.1.2.2.2.1,d.2.2.2.2.2.2.1,()) with
 |none=>none
 |some aa=>
  bif aa.1 then
   match NT (d.1.2.2.2.2.2.2.1,d.2.1,d.2.2.1,d.2.2.2.1,d.2.2.2.2.1,d.2.2.2.2.2.1,d.2.2.2.2.2.2.1,d.2.2.2.2.2.2.2.1,d.2.2.2.2.2.2.2.2.1,()) with
   |none=>none
   |some ag=>
    some (false,ag.1,ag.2.1,ag.2.2.1,ag.2.2.2.1,ag.2.2.2.2.1,ag.2.2.2.2.2.1,ag.2.2.2.2.2.2.1,ag.2.2.2.2.2.2.2.1,())
  else
   some (false,d.2.1,d.2.2.1,d.2.2.2.1,d.2.2.2.2.1,d.2.2.2.2.2.1,d.2.2.2.2.2.2.1,d.2.2.2.2.2.2.2.1,d.2.2.2.2.2.2.2.2.1,())
def sw (d:aL):O (Bool×H):=
 let t0:=(decide ((((d.1.length):Int):Int)>=((d.2.1.length):Int)))
 bif t0 then
  bif ((0:Int)<=((d.2.1.length):Int)&&(((d.2.1.length):Int):Int)<=(d.1.length:Int)) then
   let t1:=(List.drop 0 (List.take (Int.toNat ((d.2.1.length):Int)) d.1))
   some ((decide ((t1:N)=d.2.1)),())
  else none
 else
  some (false,())
def So (d:aL):O w2:=
 match sw (d.1,d.2.1,()) with
 |none=>none
 |some aa=>
  bif !aa.1 then
   some (d.1,false,())
  else
   bif (0<=((d.2.1.length):Int)&&(((d.2.1.length):Int):Int)<=(d.1.length:Int)&&((d.1.length:Int):Int)<=(d.1.length:Int)) then
    let t1:=(List.drop (Int.toNat ((d.2.1.length):Int)) (List.take (Int.toNat (d.1.length:Int)) d.1))
    some (t1,true,())
   else none
def Jk (d:aL):O w2:=
 match So (d.1,d.2.1,()) with
 |none=>none
 |some aa=>
  some (aa.1,aa.2.1,())
def wz (d:N×N×N×H):O w2:=
 match Jk (d.1,d.2.1,()) with
 |none=>none
 |some aa=>
  bif !aa.2.1 then
   some ([],false,())
  else
   bif d.2.2.1.length+aa.1.length<=am then
    some ((d.2.2.1++aa.1),true,())
   else none
def Oh (d:wV):O (Bool×Bool×Bool×N×N×Int×N×Bool×Int×H):=
 match wz (d.2.2.2.2.2.2.1,d.1.2.2.2.2.2.1,d.1.2.2.2.2.1,()) with
 |none=>none
 |some aa=>
  bif aa.2.1 then
   some (false,d.2.1,d.2.2.1,d.2.2.2.1,d.2.2.2.2.1,d.2.2.2.2.2.1,aa.1,d.2.2.2.2.2.2.2.1,d.2.2.2.2.2.2.2.2.1,())
  else
   some (false,d.2.1,d.2.2.1,d.2.2.2.1,d.2.2.2.2.1,d.2.2.2.2.2.1,d.2.2.2.2.2.2.1,d.2.2.2.2.2.2.2.1,d.2.2.2.2.2.2.2.2.1,())
def Dh (d:aL):O (Bool×H):=
 match sw (d.1,d.2.1,()) with
 |none=>none
 |some aa=>
  some (aa.1,())
def Zq (d:wV):O (Bool×Bool×Bool×N×N×Int×N×Bool×Int×H):=
 match Dh (d.2.2.2.2.2.2.1,d.1.2.2.2.2.1,()) with
 |none=>none
 |some aa=>
  bif !aa.1 then
   match Oh (d.1,d.2.1,d.2.2.1,d.2.2.2.1,d.2.2.2.2.1,d.2.2.2.2.2.1,d.2.2.2.2.2.2.1,d.2.2.2.2.2.2.2.1,d.2.2.2.2.2.2.2.2.1,()) with
   |none=>none
   |some ag=>
    some (ag.1,ag.2.1,ag.2.2.1,ag.2.2.2.1,ag.2.2.2.2.1,ag.2.2.2.2.2.1,ag.2.2.2.2.2.2.1,ag.2.2.2.2.2.2.2.1,ag.2.2.2.2.2.2.2.2.1,())
  else
   some (true,d.2.1,d.2.2.1,d.2.2.2.1,d.2.2.2.2.1,d.2.2.2.2.2.1,d.2.2.2.2.2.2.1,d.2.2.2.2.2.2.2.1,d.2.2.2.2.2.2.2.2.1,())
def Zp (d:wV):O (Bool×Bool×Bool×N×N×Int×N×Bool×Int×H):=
 match pz (d.1.2.2.2.1,d.2.2.2.2.2.2.1,()) with
 |none=>none
 |some aa=>
  some (aa.1,d.2.1,d.2.2.1,d.2.2.2.1,d.2.2.2.2.1,d.2.2.2.2.2.1,d.2.2.2.2.2.2.1,d.2.2.2.2.2.2.2.1,d.2.2.2.2.2.2.2.2.1,())
def Zo (d:wV):O (Bool×Bool×Bool×N×N×Int×N×Bool×Int×H):=
 let t0:=decide ((d.1.2.1:N)=d.2.2.2.2.2.2.1)
 some (t0,d.2.1,d.2.2.1,d.2.2.2.1,d.2.2.2.2.1,d.2.2.2.2.2.1,d.2.2.2.2.2.2.1,d.2.2.2.2.2.2.2.1,d.2.2.2.2.2.2.2.2.1,())
def Zn (d:wV):O (Bool×Bool×Bool×N×N×Int×N×Bool×Int×H):=
 let t0:=(!decide ((d.1.2.1:N)=d.2.2.2.2.2.2.1))
 bif t0 then
  some (false,d.2.1,d.2.2.1,d.2.2.2.1,d.2.2.2.2.1,d.2.2.2.2.2.1,d.2.2.2.2.2.2.1,d.2.2.2.2.2.2.2.1,d.2.2.2.2.2.2.2.2.1,())
 else
  match NT (d.1.2.2.2.2.2.2.1,d.2.1,d.2.2.1,d.2.2.2.1,d.2.2.2.2.1,d.2.2.2.2.2.1,d.2.2.2.2.2.2.1,d.2.2.2.2.2.2.2.1,d.2.2.2.2.2.2.2.2.1,()) with
  |none=>none
  |some ag=>
   some (true,ag.1,true,ag.2.2.1,d.1.2.2.1,ag.2.2.2.2.2.2.2.1,ag.2.2.2.2.2.1,ag.2.2.2.2.2.2.1,ag.2.2.2.2.2.2.2.1,())
def yx (d:KO):O KO:=
 bif d.1 then
  bif d.2.1= -1 then
   some (true,0,d.2.2.1,d.2.2.2.1,d.2.2.2.2.1,d.2.2.2.2.2.1,d.2.2.2.2.2.2.1,d.2.2.2.2.2.2.2.1,d.2.2.2.2.2.2.2.2.1,d.2.2.2.2.2.2.2.2.2.1,d.2.2.2.2.2.2.2.2.2.2.1,d.2.2.2.2.2.2.2.2.2.2.2.1,d.2.2.2.2.2.2.2.2.2.2.2.2.1,d.2.2.2.2.2.2.2.2.2.2.2.2.2.1,d.2.2.2.2.2.2.2.2.2.2.2.2.2.2.1,d.2.2.2.2.2.2.2.2.2.2.2.2.2.2.2.1,d.2.2.2.2.2.2.2.2.2.2.2.2.2.2.2.2.1,d.2.2.2.2.2.2.2.2.2.2.2.2.2.2.2.2.2.1,())
  else none
 else
  bif d.2.2.2.1 then
   bif d.2.1= -1 then
    some (false,1,d.2.2.1,d.2.2.2.1,d.2.2.2.2.1,d.2.2.2.2.2.1,d.2.2.2.2.2.2.1,d.2.2.2.2.2.2.2.1,d.2.2.2.2.2.2.2.2.1,d.2.2.2.2.2.2.2.2.2.1,true,true,d.2.2.2.2.1,d.2.2.2.2.2.1,d.2.2.2.2.2.2.1,[],false,0,())
   else none
  else
   bif d.2.1= -1 then
    some (false,1,d.2.2.1,d.2.2.2.1,d.2.2.2.2.1,d.2.2.2.2.2.1,d.2.2.2.2.2.2.1,d.2.2.2.2.2.2.2.1,d.2.2.2.2.2.2.2.2.1,d.2.2.2.2.2.2.2.2.2.1,true,false,[],[],0,[],false,0,())
   else none
def Tv (d:Int×bH×Int×Bool×Bool×N×N×Int×N×Bool×Int×Bool×Bool×N×N×Int×N×Bool×Int×H):O KO:=
 bif d.2.2.1=0 then
  bif d.2.2.1=0 then
   bif 0<=d.2.1.1&&d.2.1.1<7 then
    bif (Nat.beq (d.2.1.1.toNat) 6) then
     match Zr (d.2.1,d.2.2.2.1,d.2.2.2.2.1,d.2.2.2.2.2.1,d.2.2.2.2.2.2.1,d.2.2.2.2.2.2.2.1,d.2.2.2.2.2.2.2.2.1,d.2.2.2.2.2.2.2.2.2.1,d.2.2.2.2.2.2.2.2.2.2.1,()) with
     |none=>none
     |some aa=>
      yx ((!aa.1),(-1:Int),aa.2.1,aa.2.2.1,aa.2.2.2.1,aa.2.2.2.2.1,aa.2.2.2.2.2.1,aa.2.2.2.2.2.2.1,aa.2.2.2.2.2.2.2.1,aa.2.2.2.2.2.2.2.2.1,d.2.2.2.2.2.2.2.2.2.2.2.1,d.2.2.2.2.2.2.2.2.2.2.2.2.1,d.2.2.2.2.2.2.2.2.2.2.2.2.2.1,d.2.2.2.2.2.2.2.2.2.2.2.2.2.2.1,d.2.2.2.2.2.2.2.2.2.2.2.2.2.2.2.1,d.2.2.2.2.2.2.2.2.2.2.2.2.2.2.2.2.1,d.2.2.2.2.2.2.2.2.2.2.2.2.2.2.2.2.2.1,d.2.2.2.2.2.2.2.2.2.2.2.2.2.2.2.2.2.2.1,())
    else
     bif (Nat.beq (d.2.1.1.toNat) 5) then
      match Oh (d.2.1,d.2.2.2.1,d.2.2.2.2.1,d.2.2.2.2.2.1,d.2.2.2.2.2.2.1,d.2.2.2.2.2.2.2.1,d.2.2.2.2.2.2.2.2.1,d.2.2.2.2.2.2.2.2.2.1,d.2.2.2.2.2.2.2.2.2.2.1,()) with
      |none=>none
      |some aa=>
       yx ((!aa.1),(-1:Int),aa.2.1,aa.2.2.1,aa.2.2.2.1,aa.2.2.2.2.1,aa.2.2.2.2.2.1,aa.2.2.2.2.2.2.1,aa.2.2.2.2.2.2.2.1,aa.2.2.2.2.2.2.2.2.1,d.2.2.2.2.2.2.2.2.2.2.2.1,d.2.2.2.2.2.2.2.2.2.2.2.2.1,d.2.2.2.2.2.2.2.2.2.2.2.2.2.1,d.2.2.2.2.2.2.2.2.2.2.2.2.2.2.1,d.2.2.2.2.2.2.2.2.2.2.2.2.2.2.2.1,d.2.2.2.2.2.2.2.2.2.2.2.2.2.2.2.2.1,d.2.2.2.2.2.2.2.2.2.2.2.2.2.2.2.2.2.1,d.2.2.2.2.2.2.2.2.2.2.2.2.2.2.2.2.2.2.1,())
     else
      bif (Nat.beq (d.2.1.1.toNat) 4) then
       match Zq (d.2.1,d.2.2.2.1,d.2.2.2.2.1,d.2.2.2.2.2.1,d.2.2.2.2.2.2.1,d.2.2.2.2.2.2.2.1,d.2.2.2.2.2.2.2.2.1,d.2.2.2.2.2.2.2.2.2.1,d.2.2.2.2.2.2.2.2.2.2.1,()) with
       |none=>none
       |some aa=>
        yx ((!aa.1),(-1:Int),aa.2.1,aa.2.2.1,aa.2.2.2.1,aa.2.2.2.2.1,aa.2.2.2.2.2.1,aa.2.2.2.2.2.2.1,aa.2.2.2.2.2.2.2.1,aa.2.2.2.2.2.2.2.2.1,d.2.2.2.2.2.2.2.2.2.2.2.1,d.2.2.2.2.2.2.2.2.2.2.2.2.1,d.2.2.2.2.2.2.2.2.2.2.2.2.2.1,d.2.2.2.2.2.2.2.2.2.2.2.2.2.2.1,d.2.2.2.2.2.2.2.2.2.2.2.2.2.2.2.1,d.2.2.2.2.2.2.2.2.2.2.2.2.2.2.2.2.1,d.2.2.2.2.2.2.2.2.2.2.2.2.2.2.2.2.2.1,d.2.2.2.2.2.2.2.2.2.2.2.2.2.2.2.2.2.2.1,())
      else
       bif (Nat.beq (d.2.1.1.toNat) 3) then
        match Zp (d.2.1,d.2.2.2.1,d.2.2.2.2.1,d.2.2.2.2.2.1,d.2.2.2.2.2.2.1,d.2.2.2.2.2.2.2.1,d.2.2.2.2.2.2.2.2.1,d.2.2.2.2.2.2.2.2.2.1,d.2.2.2.2.2.2.2.2.2.2.1,()) with
        |none=>none
        |some aa=>
         yx ((!aa.1),(-1:Int),aa.2.1,aa.2.2.1,aa.2.2.2.1,aa.2.2.2.2.1,aa.2.2.2.2.2.1,aa.2.2.2.2.2.2.1,aa.2.2.2.2.2.2.2.1,aa.2.2.2.2.2.2.2.2.1,d.2.2.2.2.2.2.2.2.2.2.2.1,d.2.2.2.2.2.2.2.2.2.2.2.2.1,d.2.2.2.2.2.2.2.2.2.2.2.2.2.1,d.2.2.2.2.2.2.2.2.2.2.2.2.2.2.1,d.2.2.2.2.2.2.2.2.2.2.2.2.2.2.2.1,d.2.2.2.2.2.2.2.2.2.2.2.2.2.2.2.2.1,d.2.2.2.2.2.2.2.2.2.2.2.2.2.2.2.2.2.1,d.2.2.2.2.2.2.2.2.2.2.2.2.2.2.2.2.2.2.1,())
       else
        bif (Nat.beq (d.2.1.1.toNat) 2) then
         match Zo (d.2.1,d.2.2.2.1,d.2.2.2.2.1,d.2.2.2.2.2.1,d.2.2.2.2.2.2.1,d.2.2.2.2.2.2.2.1,d.2.2.2.2.2.2.2.2.1,d.2.2.2.2.2.2.2.2.2.1,d.2.2.2.2.2.2.2.2.2.2.1,()) with
         |none=>none
         |some aa=>
          yx ((!aa.1),(-1:Int),aa.2.1,aa.2.2.1,aa.2.2.2.1,aa.2.2.2.2.1,aa.2.2.2.2.2.1,aa.2.2.2.2.2.2.1,aa.2.2.2.2.2.2.2.1,aa.2.2.2.2.2.2.2.2.1,d.2.2.2.2.2.2.2.2.2.2.2.1,d.2.2.2.2.2.2.2.2.2.2.2.2.1,d.2.2.2.2.2.2.2.2.2.2.2.2.2.1,d.2.2.2.2.2.2.2.2.2.2.2.2.2.2.1,d.2.2.2.2.2.2.2.2.2.2.2.2.2.2.2.1,d.2.2.2.2.2.2.2.2.2.2.2.2.2.2.2.2.1,d.2.2.2.2.2.2.2.2.2.2.2.2.2.2.2.2.2.1,d.2.2.2.2.2.2.2.2.2.2.2.2.2.2.2.2.2.2.1,())
        else
         bif (Nat.beq (d.2.1.1.toNat) 1) then
          match Zn (d.2.1,d.2.2.2.1,d.2.2.2.2.1,d.2.2.2.2.2.1,d.2.2.2.2.2.2.1,d.2.2.2.2.2.2.2.1,d.2.2.2.2.2.2.2.2.1,d.2.2.2.2.2.2.2.2.2.1,d.2.2.2.2.2.2.2.2.2.2.1,()) with
          |none=>none
          |some aa=>
           yx ((!aa.1),(-1:Int),aa.2.1,aa.2.2.1,aa.2.2.2.1,aa.2.2.2.2.1,aa.2.2.2.2.2.1,aa.2.2.2.2.2.2.1,aa.2.2.2.2.2.2.2.1,aa.2.2.2.2.2.2.2.2.1,d.2.2.2.2.2.2.2.2.2.2.2.1,d.2.2.2.2.2.2.2.2.2.2.2.2.1,d.2.2.2.2.2.2.2.2.2.2.2.2.2.1,d.2.2.2.2.2.2.2.2.2.2.2.2.2.2.1,d.2.2.2.2.2.2.2.2.2.2.2.2.2.2.2.1,d.2.2.2.2.2.2.2.2.2.2.2.2.2.2.2.2.1,d.2.2.2.2.2.2.2.2.2.2.2.2.2.2.2.2.2.1,d.2.2.2.2.2.2.2.2.2.2.2.2.2.2.2.2.2.2.1,())
         else
          bif (Nat.beq (d.2.1.1.toNat) 0) then
           none
          else none
   else none
  else none
 else none
def lw (d:Ux):O (Ux⊕(EU⊕EU)):=
 bif d.1>=0 then
  bif 0<=d.1&&d.1<(d.2.2.1.length:Int) then
   let t0:=(d.2.2.1.getD (d.1.toNat) (0,([],([],(([],([],())),([],([],(0,()))))))))
   match Tv (d.1,t0,d.2.1,d.2.2.2.1,d.2.2.2.2.1,d.2.2.2.2.2.1,d.2.2.2.2.2.2.1,d.2.2.2.2.2.2.2.1,d.2.2.2.2.2.2.2.2.1,d.2.2.2.2.2.2.2.2.2.1,d.2.2.2.2.2.2.2.2.2.2.1,d.2.2.2.2.2.2.2.2.2.2.2.1,d.2.2.2.2.2.2.2.2.2.2.2.2.1,d.2.2.2.2.2.2.2.2.2.2.2.2.2.1,d.2.2.2.2.2.2.2.2.2.2.2.2.2.2.1,d.2.2.2.2.2.2.2.2.2.2.2.2.2.2.2.1,d.2.2.2.2.2.2.2.2.2.2.2.2.2.2.2.2.1,d.2.2.2.2.2.2.2.2.2.2.2.2.2.2.2.2.2.1,d.2.2.2.2.2.2.2.2.2.2.2.2.2.2.2.2.2.2.1,()) with
   |none=>none
   |some ag=>
    bif !ag.1 then
     some (.inr (.inl (ag.2.1,d.2.2.1,ag.2.2.1,ag.2.2.2.1,ag.2.2.2.2.1,ag.2.2.2.2.2.1,ag.2.2.2.2.2.2.1,ag.2.2.2.2.2.2.2.1,ag.2.2.2.2.2.2.2.2.1,ag.2.2.2.2.2.2.2.2.2.1,ag.2.2.2.2.2.2.2.2.2.2.1,ag.2.2.2.2.2.2.2.2.2.2.2.1,ag.2.2.2.2.2.2.2.2.2.2.2.2.1,ag.2.2.2.2.2.2.2.2.2.2.2.2.2.1,ag.2.2.2.2.2.2.2.2.2.2.2.2.2.2.1,ag.2.2.2.2.2.2.2.2.2.2.2.2.2.2.2.1,ag.2.2.2.2.2.2.2.2.2.2.2.2.2.2.2.2.1,ag.2.2.2.2.2.2.2.2.2.2.2.2.2.2.2.2.2.1,())))
    else
     some (.inl ((i64.wrap (d.1-1)),ag.2.1,d.2.2.1,ag.2.2.1,ag.2.2.2.1,ag.2.2.2.2.1,ag.2.2.2.2.2.1,ag.2.2.2.2.2.2.1,ag.2.2.2.2.2.2.2.1,ag.2.2.2.2.2.2.2.2.1,ag.2.2.2.2.2.2.2.2.2.1,ag.2.2.2.2.2.2.2.2.2.2.1,ag.2.2.2.2.2.2.2.2.2.2.2.1,ag.2.2.2.2.2.2.2.2.2.2.2.2.1,ag.2.2.2.2.2.2.2.2.2.2.2.2.2.1,ag.2.2.2.2.2.2.2.2.2.2.2.2.2.2.1,ag.2.2.2.2.2.2.2.2.2.2.2.2.2.2.2.1,ag.2.2.2.2.2.2.2.2.2.2.2.2.2.2.2.2.1,ag.2.2.2.2.2.2.2.2.2.2.2.2.2.2.2.2.2.1,()))
  else none
 else
  some (.inr (.inr (d.2.1,d.2.2.1,d.2.2.2.1,d.2.2.2.2.1,d.2.2.2.2.2.1,d.2.2.2.2.2.2.1,d.2.2.2.2.2.2.2.1,d.2.2.2.2.2.2.2.2.1,d.2.2.2.2.2.2.2.2.2.1,d.2.2.2.2.2.2.2.2.2.2.1,d.2.2.2.2.2.2.2.2.2.2.2.1,d.2.2.2.2.2.2.2.2.2.2.2.2.1,d.2.2.2.2.2.2.2.2.2.2.2.2.2.1,d.2.2.2.2.2.2.2.2.2.2.2.2.2.2.1,d.2.2.2.2.2.2.2.2.2.2.2.2.2.2.2.1,d.2.2.2.2.2.2.2.2.2.2.2.2.2.2.2.2.1,d.2.2.2.2.2.2.2.2.2.2.2.2.2.2.2.2.2.1,d.2.2.2.2.2.2.2.2.2.2.2.2.2.2.2.2.2.2.1,())))
def agy:=b6 lw
def ag0 (d:EU):O EU:=
 let t0:=(i64.wrap (((d.2.1.length):Int)-1))
 match agy (t0,d.1,d.2.1,d.2.2.1,d.2.2.2.1,d.2.2.2.2.1,d.2.2.2.2.2.1,d.2.2.2.2.2.2.1,d.2.2.2.2.2.2.2.1,d.2.2.2.2.2.2.2.2.1,d.2.2.2.2.2.2.2.2.2.1,d.2.2.2.2.2.2.2.2.2.2.1,d.2.2.2.2.2.2.2.2.2.2.2.1,d.2.2.2.2.2.2.2.2.2.2.2.2.1,d.2.2.2.2.2.2.2.2.2.2.2.2.2.1,d.2.2.2.2.2.2.2.2.2.2.2.2.2.2.1,d.2.2.2.2.2.2.2.2.2.2.2.2.2.2.2.1,d.2.2.2.2.2.2.2.2.2.2.2.2.2.2.2.2.1,d.2.2.2.2.2.2.2.2.2.2.2.2.2.2.2.2.2.1,()) with
 |none=>none
 |some (.inl aD)=>
  some (aD.1,aD.2.1,aD.2.2.1,aD.2.2.2.1,aD.2.2.2.2.1,aD.2.2.2.2.2.1,aD.2.2.2.2.2.2.1,aD.2.2.2.2.2.2.2.1,aD.2.2.2.2.2.2.2.2.1,aD.2.2.2.2.2.2.2.2.2.1,aD.2.2.2.2.2.2.2.2.2.2.1,aD.2.2.2.2.2.2.2.2.2.2.2.1,aD.2.2.2.2.2.2.2.2.2.2.2.2.1,aD.2.2.2.2.2.2.2.2.2.2.2.2.2.1,aD.2.2.2.2.2.2.2.2.2.2.2.2.2.2.1,aD.2.2.2.2.2.2.2.2.2.2.2.2.2.2.2.1,aD.2.2.2.2.2.2.2.2.2.2.2.2.2.2.2.2.1,aD.2.2.2.2.2.2.2.2.2.2.2.2.2.2.2.2.2.1,())
 |some (.inr aD)=>
  some (aD.1,aD.2.1,aD.2.2.1,aD.2.2.2.1,aD.2.2.2.2.1,aD.2.2.2.2.2.1,aD.2.2.2.2.2.2.1,aD.2.2.2.2.2.2.2.1,aD.2.2.2.2.2.2.2.2.1,aD.2.2.2.2.2.2.2.2.2.1,aD.2.2.2.2.2.2.2.2.2.2.1,aD.2.2.2.2.2.2.2.2.2.2.2.1,aD.2.2.2.2.2.2.2.2.2.2.2.2.1,aD.2.2.2.2.2.2.2.2.2.2.2.2.2.1,aD.2.2.2.2.2.2.2.2.2.2.2.2.2.2.1,aD.2.2.2.2.2.2.2.2.2.2.2.2.2.2.2.1,aD.2.2.2.2.2.2.2.2.2.2.2.2.2.2.2.2.1,aD.2.2.2.2.2.2.2.2.2.2.2.2.2.2.2.2.2.1,())
def OR (d:N×cD×H):O (JL×H):=
 match HV (d.2.1,()) with
 |none=>none
 |some aa=>
  match ag0 (0,aa.1,false,false,d.1,[],0,d.1,false,0,false,false,[],[],0,[],false,0,()) with
  |none=>none
  |some ag=>
   bif ag.1=0 then
    some ((ag.2.2.1,(ag.2.2.2.1,((ag.2.2.2.2.1,(ag.2.2.2.2.2.1,(ag.2.2.2.2.2.2.1,()))),(ag.2.2.2.2.2.2.2.1,(ag.2.2.2.2.2.2.2.2.1,(ag.2.2.2.2.2.2.2.2.2.1,())))))),())
   else
    bif ag.1=1 then
     some ((ag.2.2.2.2.2.2.2.2.2.2.1,(ag.2.2.2.2.2.2.2.2.2.2.2.1,((ag.2.2.2.2.2.2.2.2.2.2.2.2.1,(ag.2.2.2.2.2.2.2.2.2.2.2.2.2.1,(ag.2.2.2.2.2.2.2.2.2.2.2.2.2.2.1,()))),(ag.2.2.2.2.2.2.2.2.2.2.2.2.2.2.2.1,(ag.2.2.2.2.2.2.2.2.2.2.2.2.2.2.2.2.1,(ag.2.2.2.2.2.2.2.2.2.2.2.2.2.2.2.2.2.1,())))))),())
    else none
def yK (d:N×H):O (Bool×H):=
 some ((!decide ((d.1:N)=d.1)),())
def Xq (d:aL):O (Bool×H):=
 match yK (d.1,()) with
 |none=>none
 |some aa=>
  bif aa.1 then
   match yK (d.2.1,()) with
   |none=>none
   |some ag=>
    bif (!(!ag.1)) then
     some ((Op.bytesLess d.1 d.2.1),())
    else
     some (true,())
  else
   some ((Op.bytesLess d.1 d.2.1),())
def S0 (d:N×H):O (Bool×H):=
 some ((!decide ((d.1:N)=d.1)),())
def agI (d:UC):O (UC⊕((bo×N×Int×Int×H)⊕H)):=
 let t0:=decide (d.2.2.2.1<d.2.2.2.2.1)
 bif t0 then
  let t1:=i64.wrap (d.2.2.2.1+d.2.2.2.2.1)
  let t2:Int:=(Int.fdiv (IntKind.u64.wrap t1) (2^(min (Int.toNat 1) IntKind.u64.bits)))
  bif (0<=(i64.wrap t2)&&((i64.wrap t2):Int)<(d.1.length:Int)) then
   let t3:=(d.1.getD (Int.toNat (i64.wrap t2)) [])
   match Xq (t3,d.2.1,()) with
   |none=>none
   |some dz=>
    bif dz.1 then
     let t5:=i64.wrap ((i64.wrap t2)+1)
     some (.inl (d.1,d.2.1,d.2.2.1,t5,d.2.2.2.2.1,()))
    else
     some (.inl (d.1,d.2.1,d.2.2.1,d.2.2.2.1,(i64.wrap t2),()))
  else none
 else
  some (.inr (.inl (d.1,d.2.1,d.2.2.1,d.2.2.2.1,())))
def agK:=b6 agI
def ag8 (d:bo×N×H):O Af:=
 match agK (d.1,d.2.1,((d.1.length):Int),0,((d.1.length):Int),()) with
 |none=>none
 |some (.inl z0)=>
  bif z0.2.2.2.1<z0.2.2.1 then
   bif 0<=z0.2.2.2.1&&z0.2.2.2.1<(z0.1.length:Int) then
    let t1:=(z0.1.getD (z0.2.2.2.1.toNat) [])
    bif (!(decide ((t1:N)=z0.2.1))) then
     bif 0<=z0.2.2.2.1&&z0.2.2.2.1<(z0.1.length:Int) then
      let t2:=(z0.1.getD (z0.2.2.2.1.toNat) [])
      match S0 (t2,()) with
      |none=>none
      |some bP=>
       bif bP.1 then
        match S0 (z0.2.1,()) with
        |none=>none
        |some dz=>
         some (z0.2.2.2.1,dz.1,())
       else
        some (z0.2.2.2.1,false,())
     else none
    else
     some (z0.2.2.2.1,true,())
   else none
  else
   some (z0.2.2.2.1,false,())
 |some (.inr z0)=>
  none
def aci (d:N×bo×H):O (Int×H):=
 match ag8 (d.2.1,d.1,()) with
 |none=>none
 |some aa=>
  bif aa.2.1 then
   some ((i64.wrap (aa.1+1)),())
  else
   some (aa.1,())
def aa6 (d:JL×ck×Bool×H):O (ck×Bool×H):=
 bif d.1.1 then
  some (d.1.2.2.1,d.1.2.1,())
 else
  bif !d.2.2.1 then
   some (([],([],(0,()))),false,())
  else
   bif d.1.2.2.2.2.1 then
    some ((d.1.2.2.1.1,(d.2.1.2.1,(d.1.2.2.2.2.2.1,()))),true,())
   else
    some ((d.1.2.2.1.1,(d.2.1.2.1,(d.2.1.2.2.1,()))),true,())
def aa8 (d:Ud):O (Ud⊕(K0⊕H)):=
 match ik (d.2.2.2.1.1,d.2.1,()) with
 |none=>none
 |some aa=>
  bif (!(aa.2.1=0)) then
   some (.inr (.inl (aa.2.1,d.2.2.1,([],([],(0,()))),false,0,())))
  else
   let t1:=i64.wrap (d.2.2.2.2.2.2.2.2.1+1)
   match tX (aa.1,()) with
   |none=>none
   |some aS=>
    bif aS.1 then
     match abL (aa.1.1,d.1,()) with
     |none=>none
     |some bP=>
      some (.inr (.inl (0,d.2.2.1,bP.1,bP.2.1,t1,())))
    else
     match OR (d.1,aa.1.2.2.2.2.1,()) with
     |none=>none
     |some bP=>
      bif bP.1.1 then
       some (.inr (.inl (0,(bP.1::d.2.2.1),([],([],(0,()))),false,t1,())))
      else
       match aci (bP.1.2.2.2.1,aa.1.2.1,()) with
       |none=>none
       |some dz=>
        bif 0<=dz.1&&dz.1<(aa.1.2.2.1.length:Int) then
         let t5:=(aa.1.2.2.1.getD (dz.1.toNat) 0)
         some (.inl (bP.1.2.2.2.1,t5,(bP.1::d.2.2.1),d.2.2.2.1,d.2.2.2.2.1,d.2.2.2.2.2.1,d.2.2.2.2.2.2.1,d.2.2.2.2.2.2.2.1,t1,()))
        else none
def aa9:=b6 aa8
def NU (d:K0):O (K0⊕((Int×ck×Bool×Int×H)⊕H)):=
 bif (List.isEmpty d.2.1) then
  some (.inr (.inl (d.1,d.2.2.1,d.2.2.2.1,d.2.2.2.2.1,())))
 else
  match (List.head? d.2.1) with
  |none=>none
  |some Ek=>
   let t1:=decide (d.2.2.2.2.1>0)
   bif t1 then
    match aa6 (Ek,d.2.2.1,d.2.2.2.1,()) with
    |none=>none
    |some aS=>
     some (.inl (d.1,(List.tail d.2.1),aS.1,aS.2.1,d.2.2.2.2.1,()))
   else
    some (.inl (d.1,(List.tail d.2.1),d.2.2.1,d.2.2.2.1,d.2.2.2.2.1,()))
def NV:=b6 NU
def Gy (d:cQ×N×H):O ql:=
 match aa9 (d.2.1,d.1.2.1,[],d.1,[],[],0,false,0,()) with
 |none=>none
 |some (.inl z0)=>
  match NV (z0.1,z0.2.1,z0.2.2.1,z0.2.2.2.1,z0.2.2.2.2.1,()) with
  |none=>none
  |some (.inl aD)=>
   some (aD.2.1,aD.2.2.1,aD.2.2.2.1,aD.1,())
  |some (.inr aD)=>
   none
 |some (.inr z0)=>
  none
def Ku (d:bi):O (Bool×H):=
 bif d.2.1<=d.1 then
  some ((decide (d.1<=d.2.2.1)),())
 else
  some (false,())
def wB (d:bi×H):O (Bool×H):=
 match Ku (d.1.1,2,64,()) with
 |none=>none
 |some aa=>
  bif aa.1 then
   match Ku (d.1.2.1,2,16,()) with
   |none=>none
   |some ag=>
    bif ag.1 then
     match Ku (d.1.2.2.1,1,64,()) with
     |none=>none
     |some aS=>
      some (aS.1,())
    else
     some (false,())
  else
   some (false,())
def FK (d:iM×H):O (Bool×H):=
 some ((!d.1.1),())
def xK (d:b9×Int×Int×H):O ((b9×Int×Int×H)⊕((Int×H)⊕H)):=
 bif d.2.2.1<d.2.1 then
  bif 0<=d.2.2.1&&d.2.2.1<(d.1.length:Int) then
   let t0:=(d.1.getD (d.2.2.1.toNat) (false,(false,(0,(([],([],([],([],([],()))))),())))))
   match FK (t0,()) with
   |none=>none
   |some ag=>
    bif ag.1 then
     some (.inr (.inl (d.2.2.1,())))
    else
     some (.inl (d.1,d.2.1,(i64.wrap (d.2.2.1+1)),()))
  else none
 else
  some (.inr (.inr (())))
def QD:=b6 xK
def BV (d:bB):O (Int×H):=
 match QD (d.1,((d.1.length):Int),0,()) with
 |none=>none
 |some (.inl z0)=>
  some (z0.1,())
 |some (.inr z0)=>
  some ((-1:Int),())
def zD (d:bB×H):O bB:=
 bif (0<=((d.1.1.length):Int)&&(((d.1.1.length):Int):Int)<=((d.1.1.length):Int)&&((d.1.1.length):Int)*136<=(am:Int)) then
  let t0:=(List.take (List.length (List.replicate (Int.toNat ((d.1.1.length):Int)) (false,(false,((0:Int),((([]:aj),(([]:bo),(([]:ct),(([]:hs),(([]:cD),()))))),())))))) d.1.1)
  let t1:=(List.take 0 (List.replicate (Int.toNat ((d.1.1.length):Int)) (false,(false,((0:Int),((([]:aj),(([]:bo),(([]:ct),(([]:hs),(([]:cD),()))))),())))))++t0++List.drop (0+t0.length) (List.replicate (Int.toNat ((d.1.1.length):Int)) (false,(false,((0:Int),((([]:aj),(([]:bo),(([]:ct),(([]:hs),(([]:cD),()))))),()))))))
  some (t1,())
 else none
def Ey (d:UF):O (UF⊕((Int×Int×bB×H)⊕(bB×cE×b9×H))):=
 bif d.2.2.1<d.2.1 then
  bif 0<=d.2.2.1&&d.2.2.1<(d.1.length:Int) then
   let t0:=(d.1.getD (d.2.2.1.toNat) 0)
   match mt (d.2.2.2.1,t0,()) with
   |none=>none
   |some ag=>
    bif !ag.1 then
     some (.inr (.inl (0,110,d.2.2.2.1,())))
    else
     some (.inl (d.1,d.2.1,(i64.wrap (d.2.2.1+1)),d.2.2.2.1,d.2.2.2.2.1,d.2.2.2.2.2.1,()))
  else none
 else
  some (.inr (.inr (d.2.2.2.1,d.2.2.2.2.1,d.2.2.2.2.2.1,())))
def NN:=b6 Ey
def Ez (d:UG):O (UG⊕((Int×b9×b9×H)⊕H)):=
 bif d.2.2.2.1<d.2.2.1 then
  bif 0<=d.2.2.2.1&&d.2.2.2.1<(d.2.1.length:Int) then
   let t0:=(d.2.1.getD (d.2.2.2.1.toNat) 0)
   bif 0<=t0&&t0<(d.2.2.2.2.2.1.length:Int) then
    let t1:=(d.2.2.2.2.2.1.getD (t0.toNat) (false,(false,(0,(([],([],([],([],([],()))))),())))))
    let t2:=i64.wrap (t1.2.2.1+1)
    bif 0<=t0&&t0<(d.2.2.2.2.2.1.length:Int) then
     let t3:=(List.set d.2.2.2.2.2.1 (t0.toNat) ((d.2.2.2.2.2.1.getD (t0.toNat) (false,(false,(0,(([],([],([],([],([],()))))),()))))).1,((d.2.2.2.2.2.1.getD (t0.toNat) (false,(false,(0,(([],([],([],([],([],()))))),()))))).2.1,(t2,(d.2.2.2.2.2.1.getD (t0.toNat) (false,(false,(0,(([],([],([],([],([],()))))),()))))).2.2.2))))
     let t4:=i64.wrap (d.2.2.2.1+1)
     some (.inl (d.1,d.2.1,d.2.2.1,t4,d.2.2.2.2.1,t3,()))
    else none
   else none
  else none
 else
  some (.inr (.inl (d.1,d.2.2.2.2.1,d.2.2.2.2.2.1,())))
def NO:=b6 Ez
def Ft (d:Int×cE×b9×b9×H):O qc:=
 bif 0<=d.1&&d.1<(d.2.2.2.1.length:Int) then
  let t0:=(List.set d.2.2.2.1 (d.1.toNat) (true,(false,(1,(d.2.1,())))))
  match NO (d.1,d.2.1.2.2.1,((d.2.1.2.2.1.length):Int),0,d.2.2.1,t0,()) with
  |none=>none
  |some (.inl aD)=>
   some ((aD.2.2.1,()),aD.1,0,())
  |some (.inr aD)=>
   none
 else none
def Fs (d:Int×bB×cE×b9×H):O qc:=
 bif d.1>=4096 then
  some (d.2.1,0,111,())
 else
  match zD (d.2.1,()) with
  |none=>none
  |some aa=>
   let t1:=(decide (d.1=((aa.1.length):Int)))
   bif t1 then
    bif ((aa.1.length+List.length ([(false,(false,(0,(([],([],([],([],([],()))))),()))))]:b9))*136<=am) then
     let t2:b9:=(aa.1++([(false,(false,(0,(([],([],([],([],([],()))))),()))))]:b9))
     Ft (d.1,d.2.2.1,d.2.2.2.1,t2,())
    else none
   else
    Ft (d.1,d.2.2.1,d.2.2.2.1,aa.1,())
def lV (d:bB×cE×H):O qc:=
 match NN (d.2.1.2.2.1,((d.2.1.2.2.1.length):Int),0,d.1,d.2.1,[],()) with
 |none=>none
 |some (.inl z0)=>
  some (z0.2.2.1,z0.1,z0.2.1,())
 |some (.inr z0)=>
  match BV (z0.1.1,()) with
  |none=>none
  |some ag=>
   bif ag.1<0 then
    Fs (((z0.1.1.length):Int),z0.1,z0.2.1,z0.2.2.1,())
   else
    Fs (ag.1,z0.1,z0.2.1,z0.2.2.1,())
def Pa (d:bi×H):O (cQ×Int×H):=
 match wB (d.1,()) with
 |none=>none
 |some aa=>
  bif !aa.1 then
   some ((([],()),(0,((0,(0,(0,()))),()))),120,())
  else
   match lV (([],()),([],([],([],([],([],()))))),()) with
   |none=>none
   |some ag=>
    some ((ag.1,(ag.2.1,(d.1,()))),ag.2.2.1,())
def zJ (d:Int×H):O (N×H):=
 let t0:=(decide (((Int.tmod d.1 24):Int)<20))
 bif t0 then
  let t1:=(IntKind.u8.wrap (Int.tdiv (Int.tmod d.1 24) 5))
  bif (0<=t1&&t1<(List.length ([([97,47]:N),([98,47]:N),([97,47,98,47]:N),([99,47]:N)]:bo):Int)) then
   let t2:=(List.getD ([([97,47]:N),([98,47]:N),([97,47,98,47]:N),([99,47]:N)]:bo) (t1.toNat) [])
   let t3:Int:=(Int.tmod (Int.tmod d.1 24) 5)
   bif (0<=t3&&t3<(List.length ([([1]:N),([2,0,0]:N),([2,0,1]:N),([2,0,2]:N),([3,120]:N)]:bo):Int)) then
    let t4:=(List.getD ([([1]:N),([2,0,0]:N),([2,0,1]:N),([2,0,2]:N),([3,120]:N)]:bo) (t3.toNat) [])
    bif t2.length+t4.length<=am then
     some ((t2++t4),())
    else none
   else none
  else none
 else
  let t1:=(IntKind.u8.wrap ((Int.tmod d.1 24)-20))
  bif (0<=t1&&t1<(List.length ([([1]:N),([5,48,48,48,48,48,48,48,49,47,1]:N),([6,97,47,1]:N),([97,47,98,47,99,47,1]:N)]:bo):Int)) then
   let t2:=(List.getD ([([1]:N),([5,48,48,48,48,48,48,48,49,47,1]:N),([6,97,47,1]:N),([97,47,98,47,99,47,1]:N)]:bo) (t1.toNat) [])
   some (t2,())
  else none
def FQ (d:bi×H):O (ck×H):=
 match zJ (d.1.1,()) with
 |none=>none
 |some aa=>
  bif (0<=(Int.tmod d.1.2.1 4)&&((Int.tmod d.1.2.1 4):Int)<(List.length ([[],([118]:N),([119,120]:N),([120,121,122]:N)]:bo):Int)) then
   let t1:=(List.getD ([[],([118]:N),([119,120]:N),([120,121,122]:N)]:bo) (Int.toNat (Int.tmod d.1.2.1 4)) [])
   let t2:=i64.wrap (Int.tmod d.1.2.2.1 4)
   some ((aa.1,(t1,(t2,()))),())
  else none
def TR (d:pH):O (pH⊕((Bool×ck×aj×H)⊕H)):=
 bif 0<=d.2.2.1&&d.2.2.1<(d.1.length:Int) then
  let t0:=(d.1.getD (d.2.2.1.toNat) ([],([],(0,()))))
  let t1:=(!decide ((t0.1:N)=d.2.2.2.1.1))
  bif t1 then
   bif 0<=d.2.2.1&&d.2.2.1<(d.1.length:Int) then
    let t2:=(d.1.getD (d.2.2.1.toNat) ([],([],(0,()))))
    bif ((d.2.2.2.2.1.length+List.length ([t2]:aj))*40<=am) then
     let t3:aj:=(d.2.2.2.2.1++([t2]:aj))
     some (.inl (d.1,d.2.1,(i64.wrap (d.2.2.1+1)),d.2.2.2.1,t3,()))
    else none
   else none
  else
   some (.inl (d.1,d.2.1,(i64.wrap (d.2.2.1+1)),d.2.2.2.1,d.2.2.2.2.1,()))
 else none
def TS (d:UK):O (pH⊕((Bool×ck×aj×H)⊕H)):=
 bif d.2.2.2.1 then
  bif ((d.2.2.2.2.2.1.length+List.length ([d.2.2.2.2.1]:aj))*40<=am) then
   let t0:aj:=(d.2.2.2.2.2.1++([d.2.2.2.2.1]:aj))
   TR (d.1,true,d.2.2.1,d.2.2.2.2.1,t0,())
  else none
 else
  TR (d.1,d.2.1,d.2.2.1,d.2.2.2.2.1,d.2.2.2.2.2.1,())
def Ef (d:pH):O (pH⊕((Bool×ck×aj×H)⊕H)):=
 let t0:=(decide (d.2.2.1<((d.1.length):Int)))
 bif t0 then
  bif !d.2.1 then
   bif 0<=d.2.2.1&&d.2.2.1<(d.1.length:Int) then
    let t1:=(d.1.getD (d.2.2.1.toNat) ([],([],(0,()))))
    TS (d.1,d.2.1,d.2.2.1,(!(Op.bytesLess t1.1 d.2.2.2.1.1)),d.2.2.2.1,d.2.2.2.2.1,())
   else none
  else
   TS (d.1,d.2.1,d.2.2.1,false,d.2.2.2.1,d.2.2.2.2.1,())
 else
  some (.inr (.inl (d.2.1,d.2.2.2.1,d.2.2.2.2.1,())))
def Nt:=b6 Ef
def Gd (d:aj×ck×H):O (aj×H):=
 match Nt (d.1,false,0,d.2.1,[],()) with
 |none=>none
 |some (.inl z0)=>
  bif !z0.1 then
   bif ((z0.2.2.1.length+List.length ([z0.2.1]:aj))*40<=am) then
    let t1:aj:=(z0.2.2.1++([z0.2.1]:aj))
    some (t1,())
   else none
  else
   some (z0.2.2.1,())
 |some (.inr z0)=>
  none
def Dl (d:l4×Int×Bool×aj×H):O (K4⊕((aj×H)⊕H)):=
 bif d.2.2.1 then
  bif 0<=d.2.1&&d.2.1<(d.1.length:Int) then
   let t0:=(d.1.getD (d.2.1.toNat) (0,(0,(0,()))))
   match FQ (t0,()) with
   |none=>none
   |some ag=>
    match Gd (d.2.2.2.1,ag.1,()) with
    |none=>none
    |some aS=>
     some (.inl (d.1,(i64.wrap (d.2.1+1)),aS.1,()))
  else none
 else
  some (.inr (.inl (d.2.2.2.1,())))
def y9 (d:K4):O (K4⊕((aj×H)⊕H)):=
 let t0:=(decide (d.2.1<((d.1.length):Int)))
 bif t0 then
  Dl (d.1,d.2.1,(decide (d.2.1<40)),d.2.2.1,())
 else
  Dl (d.1,d.2.1,false,d.2.2.1,())
def Ka:=b6 y9
def Az (d:l4×H):O (aj×H):=
 match Ka (d.1,0,[],()) with
 |none=>none
 |some (.inl z0)=>
  some (z0.1,())
 |some (.inr z0)=>
  none
def zL (d:fh):O (cE×Int×H):=
 match zH (d.1,d.2.1,()) with
 |none=>none
 |some aa=>
  bif !aa.1 then
   some (([],([],([],([],([],()))))),110,())
  else
   bif 0<=d.2.1&&d.2.1<(d.1.1.length:Int) then
    let t1:=(d.1.1.getD (d.2.1.toNat) (false,(false,(0,(([],([],([],([],([],()))))),())))))
    bif t1.2.1 then
     some (([],([],([],([],([],()))))),112,())
    else
     bif 0<=d.2.1&&d.2.1<(d.1.1.length:Int) then
      let t2:=(d.1.1.getD (d.2.1.toNat) (false,(false,(0,(([],([],([],([],([],()))))),())))))
      some (t2.2.2.2.1,0,())
     else none
   else none
def qh (d:Int×H):O (N×H):=
 bif (0<=(Int.tmod d.1 5)&&((Int.tmod d.1 5):Int)<(List.length ([([97,47]:N),([98,47]:N),([97,47,98,47]:N),([99,47]:N),([100,47]:N)]:bo):Int)) then
  let t0:=(List.getD ([([97,47]:N),([98,47]:N),([97,47,98,47]:N),([99,47]:N),([100,47]:N)]:bo) (Int.toNat (Int.tmod d.1 5)) [])
  some (t0,())
 else none
def zK (d:Int×H):O (N×H):=
 match qh ((Int.tmod d.1 4),()) with
 |none=>none
 |some aa=>
  let t1:=(IntKind.u8.wrap (Int.tdiv d.1 4))
  bif (0<=(Int.tmod t1 5)&&((Int.tmod t1 5):Int)<(List.length ([([1]:N),([2,0,0]:N),([2,0,1]:N),([2,0,2]:N),([3,120]:N)]:bo):Int)) then
   let t2:=(List.getD ([([1]:N),([2,0,0]:N),([2,0,1]:N),([2,0,2]:N),([3,120]:N)]:bo) (Int.toNat (Int.tmod t1 5)) [])
   bif aa.1.length+t2.length<=am then
    some ((aa.1++t2),())
   else none
  else none
def XC (d:K7):O (K7⊕(K7⊕H)):=
 bif d.2.1>0 then
  bif (0<=(i64.wrap (d.2.1-1))&&((i64.wrap (d.2.1-1)):Int)<(d.1.length:Int)) then
   let t0:Int:=((d.1.getD (Int.toNat (i64.wrap (d.2.1-1))) 0).toNat:Int)
   bif t0=255 then
    some (.inl (d.1,(i64.wrap (d.2.1-1)),d.2.2.1,d.2.2.2.1,()))
   else
    some (.inr (.inl (d.1,d.2.1,d.2.2.1,d.2.2.2.1,())))
  else none
 else
  some (.inr (.inl (d.1,d.2.1,d.2.2.1,d.2.2.2.1,())))
def XE:=b6 XC
def nY (d:N×H):O (aL×H):=
 match XE (d.1,((d.1.length):Int),[],[],()) with
 |none=>none
 |some (.inl z0)=>
  bif z0.2.1=0 then
   some ((z0.1,([],())),())
  else
   bif ((0:Int)<=(i64.wrap (z0.2.1-1))&&((i64.wrap (z0.2.1-1)):Int)<=(z0.1.length:Int)) then
    let t1:=(List.drop 0 (List.take (Int.toNat (i64.wrap (z0.2.1-1))) z0.1))
    bif (0<=(i64.wrap (z0.2.1-1))&&((i64.wrap (z0.2.1-1)):Int)<(z0.1.length:Int)) then
     let t2:Int:=((z0.1.getD (Int.toNat (i64.wrap (z0.2.1-1))) 0).toNat:Int)
     let t3:N:=(uf ([(IntKind.u8.wrap (t2+1))]:ct))
     bif t1.length+t3.length<=am then
      some ((z0.1,((t1++t3),())),())
     else none
    else none
   else none
 |some (.inr z0)=>
  none
def v8 (d:aL):O (Bool×H):=
 let t0:=(decide ((((d.1.length):Int):Int)>=((d.2.1.length):Int)))
 bif t0 then
  bif ((0:Int)<=((d.2.1.length):Int)&&(((d.2.1.length):Int):Int)<=(d.1.length:Int)) then
   let t1:=(List.drop 0 (List.take (Int.toNat ((d.2.1.length):Int)) d.1))
   some ((decide ((t1:N)=d.2.1)),())
  else none
 else
  some (false,())
def wh (d:Int×H):O (N×H):=
 bif (0<=(Int.tmod d.1 5)&&((Int.tmod d.1 5):Int)<(List.length ([[],([120]:N),([121,121]:N),([49,50,51,52,53,54,55,56,57,48]:N),([0,255]:N)]:bo):Int)) then
  let t0:=(List.getD ([[],([120]:N),([121,121]:N),([49,50,51,52,53,54,55,56,57,48]:N),([0,255]:N)]:bo) (Int.toNat (Int.tmod d.1 5)) [])
  some (t0,())
 else none
def oL (d:N×H):O (aL×H):=
 bif d.1.length+List.length ([0]:N)<=am then
  some ((d.1,((d.1++([0]:N)),())),())
 else none
def sV (d:N×N×N×Bool×oX×Int×N×N×N×N×N×N×Int×aL×H):O (Uw⊕H):=
 bif d.2.2.2.1 then
  let t0:=decide ((d.2.1:N)=([100,47]:N))
  bif t0 then
   some (.inl (d.1,d.2.1,([99,47]:N),d.2.2.2.2.1,d.2.2.2.2.2.1,d.2.2.2.2.2.2.1,d.2.2.2.2.2.2.2.1,d.2.2.2.2.2.2.2.2.1,d.2.2.2.2.2.2.2.2.2.1,d.2.2.2.2.2.2.2.2.2.2.1,d.2.2.2.2.2.2.2.2.2.2.2.1,d.2.2.2.2.2.2.2.2.2.2.2.2.1,d.2.2.2.2.2.2.2.2.2.2.2.2.2.1,()))
  else
   some (.inl (d.1,d.2.1,([100,47]:N),d.2.2.2.2.1,d.2.2.2.2.2.1,d.2.2.2.2.2.2.1,d.2.2.2.2.2.2.2.1,d.2.2.2.2.2.2.2.2.1,d.2.2.2.2.2.2.2.2.2.1,d.2.2.2.2.2.2.2.2.2.2.1,d.2.2.2.2.2.2.2.2.2.2.2.1,d.2.2.2.2.2.2.2.2.2.2.2.2.1,d.2.2.2.2.2.2.2.2.2.2.2.2.2.1,()))
 else
  some (.inl (d.1,d.2.1,d.2.2.1,d.2.2.2.2.1,d.2.2.2.2.2.1,d.2.2.2.2.2.2.1,d.2.2.2.2.2.2.2.1,d.2.2.2.2.2.2.2.2.1,d.2.2.2.2.2.2.2.2.2.1,d.2.2.2.2.2.2.2.2.2.2.1,d.2.2.2.2.2.2.2.2.2.2.2.1,d.2.2.2.2.2.2.2.2.2.2.2.2.1,d.2.2.2.2.2.2.2.2.2.2.2.2.2.1,()))
def rv (d:Uw):O (bH⊕H):=
 let t0:Int:=(Int.tmod d.2.2.2.1.2.2.2.2.2.1 8)
 let t1:=(decide (((Int.tmod d.2.2.2.1.1 6):Int)=0))
 bif t1 then
  match wh (d.2.2.2.1.2.2.1,()) with
  |none=>none
  |some aS=>
   some (.inl (1,d.1,aS.1,([],([],())),[],[],(i64.wrap t0),()))
 else
  let t2:=(decide (((Int.tmod d.2.2.2.1.1 6):Int)=1))
  bif t2 then
   some (.inl (2,d.1,[],([],([],())),[],[],0,()))
  else
   let t3:=(decide (((Int.tmod d.2.2.2.1.1 6):Int)=2))
   bif t3 then
    some (.inl (3,[],[],d.2.2.2.2.2.2.2.2.2.2.2.2.1,[],[],0,()))
   else
    let t4:=(decide (((Int.tmod d.2.2.2.1.1 6):Int)=3))
    bif t4 then
     some (.inl (4,[],[],([],([],())),d.2.1,d.2.2.1,0,()))
    else
     let t5:=(decide (((Int.tmod d.2.2.2.1.1 6):Int)=4))
     bif t5 then
      some (.inl (5,[],[],([],([],())),d.2.1,d.2.2.1,0,()))
     else
      some (.inl (6,[],[],d.2.2.2.2.2.2.2.2.2.2.2.2.1,[],[],(i64.wrap t0),()))
def nB (d:N×oX×Int×N×N×N×N×N×N×Int×aL×H):O (bH⊕H):=
 match qh (d.2.1.2.1,()) with
 |none=>none
 |some aa=>
  match qh (d.2.1.2.2.2.1,()) with
  |none=>none
  |some ag=>
   match v8 (aa.1,ag.1,()) with
   |none=>none
   |some aS=>
    bif !aS.1 then
     match v8 (ag.1,aa.1,()) with
     |none=>none
     |some bP=>
      match sV (d.1,aa.1,ag.1,bP.1,d.2.1,d.2.2.1,d.2.2.2.1,d.2.2.2.2.1,d.2.2.2.2.2.1,d.2.2.2.2.2.2.1,d.2.2.2.2.2.2.2.1,d.2.2.2.2.2.2.2.2.1,d.2.2.2.2.2.2.2.2.2.1,d.2.2.2.2.2.2.2.2.2.2.1,()) with
      |none=>none
      |some (.inl z4)=>
       match rv (z4.1,z4.2.1,z4.2.2.1,z4.2.2.2.1,z4.2.2.2.2.1,z4.2.2.2.2.2.1,z4.2.2.2.2.2.2.1,z4.2.2.2.2.2.2.2.1,z4.2.2.2.2.2.2.2.2.1,z4.2.2.2.2.2.2.2.2.2.1,z4.2.2.2.2.2.2.2.2.2.2.1,z4.2.2.2.2.2.2.2.2.2.2.2.1,z4.2.2.2.2.2.2.2.2.2.2.2.2.1,()) with
       |none=>none
       |some (.inl z5)=>
        some (.inl (z5.1,z5.2.1,z5.2.2.1,z5.2.2.2.1,z5.2.2.2.2.1,z5.2.2.2.2.2.1,z5.2.2.2.2.2.2.1,()))
       |some (.inr z5)=>
        none
      |some (.inr z4)=>
       none
    else
     match sV (d.1,aa.1,ag.1,true,d.2.1,d.2.2.1,d.2.2.2.1,d.2.2.2.2.1,d.2.2.2.2.2.1,d.2.2.2.2.2.2.1,d.2.2.2.2.2.2.2.1,d.2.2.2.2.2.2.2.2.1,d.2.2.2.2.2.2.2.2.2.1,d.2.2.2.2.2.2.2.2.2.2.1,()) with
     |none=>none
     |some (.inl z3)=>
      match rv (z3.1,z3.2.1,z3.2.2.1,z3.2.2.2.1,z3.2.2.2.2.1,z3.2.2.2.2.2.1,z3.2.2.2.2.2.2.1,z3.2.2.2.2.2.2.2.1,z3.2.2.2.2.2.2.2.2.1,z3.2.2.2.2.2.2.2.2.2.1,z3.2.2.2.2.2.2.2.2.2.2.1,z3.2.2.2.2.2.2.2.2.2.2.2.1,z3.2.2.2.2.2.2.2.2.2.2.2.2.1,()) with
      |none=>none
      |some (.inl z4)=>
       some (.inl (z4.1,z4.2.1,z4.2.2.1,z4.2.2.2.1,z4.2.2.2.2.1,z4.2.2.2.2.2.1,z4.2.2.2.2.2.2.1,()))
      |some (.inr z4)=>
       none
     |some (.inr z3)=>
      none
def zF (d:oX×H):O (bH×H):=
 match zK (d.1.2.1,()) with
 |none=>none
 |some aa=>
  match zK (d.1.2.2.2.1,()) with
  |none=>none
  |some ag=>
   let t2:N:=(bif (Op.bytesLess aa.1 ag.1||decide ((aa.1:N)=ag.1)) then aa.1 else ag.1)
   let t3:N:=(bif !(Op.bytesLess aa.1 ag.1) then aa.1 else ag.1)
   let t4:=(decide (((Int.tmod d.1.2.2.2.2.1 4):Int)=0))
   bif t4 then
    match qh (d.1.2.1,()) with
    |none=>none
    |some gu=>
     match nY (gu.1,()) with
     |none=>none
     |some iT=>
      match nB (aa.1,d.1,0,[],[],[],[],[],[],0,iT.1,()) with
      |none=>none
      |some (.inl gi)=>
       some ((gi.1,(gi.2.1,(gi.2.2.1,(gi.2.2.2.1,(gi.2.2.2.2.1,(gi.2.2.2.2.2.1,(gi.2.2.2.2.2.2.1,()))))))),())
      |some (.inr gi)=>
       none
   else
    let t5:=(decide (((Int.tmod d.1.2.2.2.2.1 16):Int)=1))
    bif t5 then
     match nB (aa.1,d.1,0,[],[],[],[],[],[],0,(aa.1,([],())),()) with
     |none=>none
     |some (.inl kT)=>
      some ((kT.1,(kT.2.1,(kT.2.2.1,(kT.2.2.2.1,(kT.2.2.2.2.1,(kT.2.2.2.2.2.1,(kT.2.2.2.2.2.2.1,()))))))),())
     |some (.inr kT)=>
      none
    else
     let t6:=(decide (((Int.tmod d.1.2.2.2.2.1 16):Int)=5))
     bif t6 then
      match nB (aa.1,d.1,0,[],[],[],[],[],[],0,([],([],())),()) with
      |none=>none
      |some (.inl gi)=>
       some ((gi.1,(gi.2.1,(gi.2.2.1,(gi.2.2.2.1,(gi.2.2.2.2.1,(gi.2.2.2.2.2.1,(gi.2.2.2.2.2.2.1,()))))))),())
      |some (.inr gi)=>
       none
     else
      bif (aa.1:N)=ag.1 then
       match oL (aa.1,()) with
       |none=>none
       |some SQ=>
        match nB (aa.1,d.1,0,[],[],[],[],[],[],0,SQ.1,()) with
        |none=>none
        |some (.inl od)=>
         some ((od.1,(od.2.1,(od.2.2.1,(od.2.2.2.1,(od.2.2.2.2.1,(od.2.2.2.2.2.1,(od.2.2.2.2.2.2.1,()))))))),())
        |some (.inr od)=>
         none
      else
       match nB (aa.1,d.1,0,[],[],[],[],[],[],0,(t2,(t3,())),()) with
       |none=>none
       |some (.inl gi)=>
        some ((gi.1,(gi.2.1,(gi.2.2.1,(gi.2.2.2.1,(gi.2.2.2.2.1,(gi.2.2.2.2.2.1,(gi.2.2.2.2.2.2.1,()))))))),())
       |some (.inr gi)=>
        none
def Dm (d:(List oX)×Int×Int×Bool×cD×H):O (KR⊕((cD×H)⊕H)):=
 bif d.2.2.2.1 then
  bif 0<=d.2.2.1&&d.2.2.1<(d.1.length:Int) then
   let t0:=(d.1.getD (d.2.2.1.toNat) (0,(0,(0,(0,(0,(0,())))))))
   match zF (t0,()) with
   |none=>none
   |some ag=>
    bif ((d.2.2.2.2.1.length+List.length ([ag.1]:cD))*112<=am) then
     let t2:cD:=(d.2.2.2.2.1++([ag.1]:cD))
     some (.inl (d.1,d.2.1,(i64.wrap (d.2.2.1+1)),t2,()))
    else none
  else none
 else
  some (.inr (.inl (d.2.2.2.2.1,())))
def za (d:KR):O (KR⊕((cD×H)⊕H)):=
 let t0:=(decide (d.2.2.1<((d.1.length):Int)))
 bif t0 then
  Dm (d.1,d.2.1,d.2.2.1,(decide (d.2.2.1<d.2.1)),d.2.2.2.1,())
 else
  Dm (d.1,d.2.1,d.2.2.1,false,d.2.2.2.1,())
def MA:=b6 za
def zE (d:(List oX)×Int×H):O (cD×H):=
 match MA (d.1,d.2.1,0,[],()) with
 |none=>none
 |some (.inl z0)=>
  some (z0.1,())
 |some (.inr z0)=>
  none
def ry (d:Int×Bool×bH×H):O (au×H):=
 bif d.2.1 then
  match nY (d.2.2.1.2.2.2.2.1,()) with
  |none=>none
  |some aa=>
   some (([aa.1]:au),())
 else
  bif d.1=6 then
   some (([d.2.2.1.2.2.2.1]:au),())
  else
   some ([],())
def nO (d:bH×H):O (au×H):=
 bif d.1.1=4 then
  ry (d.1.1,true,d.1,())
 else
  ry (d.1.1,(decide (d.1.1=5)),d.1,())
def ou (d:Int×Bool×bH×H):O (au×H):=
 bif d.2.1 then
  match oL (d.2.2.1.2.1,()) with
  |none=>none
  |some aa=>
   some (([aa.1]:au),())
 else
  bif d.1=4 then
   match nY (d.2.2.1.2.2.2.2.1,()) with
   |none=>none
   |some aa=>
    match nY (d.2.2.1.2.2.2.2.2.1,()) with
    |none=>none
    |some ag=>
     some (([aa.1,ag.1]:au),())
  else
   bif d.1=5 then
    match nY (d.2.2.1.2.2.2.2.2.1,()) with
    |none=>none
    |some aa=>
     some (([aa.1]:au),())
   else
    some (([d.2.2.1.2.2.2.1]:au),())
def lI (d:bH×H):O (au×H):=
 bif d.1.1=1 then
  ou (d.1.1,true,d.1,())
 else
  ou (d.1.1,(decide (d.1.1=2)),d.1,())
def me (d:uw):O (Bool×H):=
 match mZ (d.2.1,()) with
 |none=>none
 |some aa=>
  bif !aa.1 then
   match mZ (d.1,()) with
   |none=>none
   |some ag=>
    bif !ag.1 then
     let t2:=(Op.bytesLess d.1.1 d.2.1.1||decide ((d.1.1:N)=d.2.1.1))
     bif t2 then
      match qg (d.1.2.1,d.2.1.2.1,()) with
      |none=>none
      |some bP=>
       some ((!bP.1),())
     else
      some (false,())
    else
     some (false,())
  else
   some (true,())
def pg (d:Int×aL×au×H):O ((Int×aL×au×H)⊕((Bool×H)⊕H)):=
 let t0:=(decide (d.1<((d.2.2.1.length):Int)))
 bif t0 then
  bif 0<=d.1&&d.1<(d.2.2.1.length:Int) then
   let t1:=(d.2.2.1.getD (d.1.toNat) ([],([],())))
   match me (d.2.1,t1,()) with
   |none=>none
   |some aS=>
    bif !aS.1 then
     some (.inr (.inl (false,())))
    else
     some (.inl ((i64.wrap (d.1+1)),d.2.1,d.2.2.1,()))
  else none
 else
  some (.inr (.inr (())))
def DY:=b6 pg
def jK (d:bH×aL×H):O (Bool×H):=
 match nO (d.1,()) with
 |none=>none
 |some aa=>
  bif ((List.length ([]:au)+aa.1.length)*32<=am) then
   let t1:au:=([]++aa.1)
   match lI (d.1,()) with
   |none=>none
   |some aS=>
    bif (t1.length+aS.1.length)*32<=am then
     match DY (0,d.2.1,(t1++aS.1),()) with
     |none=>none
     |some (.inl z3)=>
      some (z3.1,())
     |some (.inr z3)=>
      some (true,())
    else none
  else none
def yw (d:Int×Int×Bool×aL×cD×cD×H):O (KZ⊕((cD×H)⊕H)):=
 bif d.2.2.1 then
  bif 0<=d.2.1&&d.2.1<(d.2.2.2.2.2.1.length:Int) then
   let t0:=(d.2.2.2.2.2.1.getD (d.2.1.toNat) (0,([],([],(([],([],())),([],([],(0,()))))))))
   match jK (t0,d.2.2.2.1,()) with
   |none=>none
   |some ag=>
    bif ag.1 then
     bif 0<=d.2.1&&d.2.1<(d.2.2.2.2.2.1.length:Int) then
      let t2:=(d.2.2.2.2.2.1.getD (d.2.1.toNat) (0,([],([],(([],([],())),([],([],(0,()))))))))
      bif ((d.2.2.2.2.1.length+List.length ([t2]:cD))*112<=am) then
       let t3:cD:=(d.2.2.2.2.1++([t2]:cD))
       some (.inl (d.1,(i64.wrap (d.2.1+1)),d.2.2.2.1,t3,d.2.2.2.2.2.1,()))
      else none
     else none
    else
     some (.inl (d.1,(i64.wrap (d.2.1+1)),d.2.2.2.1,d.2.2.2.2.1,d.2.2.2.2.2.1,()))
  else none
 else
  some (.inr (.inl (d.2.2.2.2.1,())))
def vN (d:KZ):O (KZ⊕((cD×H)⊕H)):=
 let t0:=(decide (d.2.1<((d.2.2.2.2.1.length):Int)))
 bif t0 then
  let t1:=(decide ((((d.2.2.2.1.length):Int):Int)<d.1))
  yw (d.1,d.2.1,t1,d.2.2.1,d.2.2.2.1,d.2.2.2.2.1,())
 else
  yw (d.1,d.2.1,false,d.2.2.1,d.2.2.2.1,d.2.2.2.2.1,())
def Tt:=b6 vN
def vZ (d:(List oX)×aL×Int×H):O (cD×H):=
 match zE (d.1,(i64.wrap (3*d.2.2.1)),()) with
 |none=>none
 |some aa=>
  match Tt (d.2.2.1,0,d.2.1,[],aa.1,()) with
  |none=>none
  |some (.inl aD)=>
   some (aD.1,())
  |some (.inr aD)=>
   none
def To (dv:mP->O (fh×H)) (d:aj×(List bo)×Int×N×Bool×bB×aL×fg×b9×Int×bo×H):O (EV⊕(EW⊕H)):=
 bif d.2.2.2.2.1 then
  bif ((d.2.2.2.2.2.2.2.2.2.2.1.length+List.length ([d.2.2.2.1]:bo))*16<=am) then
   let t0:bo:=(d.2.2.2.2.2.2.2.2.2.2.1++([d.2.2.2.1]:bo))
   some (.inl (d.1,d.2.1,(i64.wrap (d.2.2.1+1)),d.2.2.2.2.2.1,d.2.2.2.2.2.2.1,d.2.2.2.2.2.2.2.1,d.2.2.2.2.2.2.2.2.1,d.2.2.2.2.2.2.2.2.2.1,t0,()))
  else none
 else
  some (.inl (d.1,d.2.1,(i64.wrap (d.2.2.1+1)),d.2.2.2.2.2.1,d.2.2.2.2.2.2.1,d.2.2.2.2.2.2.2.1,d.2.2.2.2.2.2.2.2.1,d.2.2.2.2.2.2.2.2.2.1,d.2.2.2.2.2.2.2.2.2.2.1,()))
def yU (dv:mP->O (fh×H)) (d:EV):O (EV⊕(EW⊕H)):=
 bif (0:Int)<(d.2.1.length:Int) then
  let t0:=(d.2.1.getD 0 [])
  let t1:=(decide (d.2.2.1<((t0.length):Int)))
  bif t1 then
   bif (0:Int)<(d.2.1.length:Int) then
    let t2:=(d.2.1.getD 0 [])
    bif 0<=d.2.2.1&&d.2.2.1<(t2.length:Int) then
     let t3:=(t2.getD (d.2.2.1.toNat) [])
     let t4:=(!(Op.bytesLess t3 d.2.2.2.2.1.1||decide ((t3:N)=d.2.2.2.2.1.1)))
     bif t4 then
      match AJ (d.2.2.2.2.1,t3,()) with
      |none=>none
      |some gu=>
       To dv (d.1,d.2.1,d.2.2.1,t3,gu.1,d.2.2.2.1,d.2.2.2.2.1,d.2.2.2.2.2.1,d.2.2.2.2.2.2.1,d.2.2.2.2.2.2.2.1,d.2.2.2.2.2.2.2.2.1,())
     else
      To dv (d.1,d.2.1,d.2.2.1,t3,false,d.2.2.2.1,d.2.2.2.2.1,d.2.2.2.2.2.1,d.2.2.2.2.2.2.1,d.2.2.2.2.2.2.2.1,d.2.2.2.2.2.2.2.2.1,())
    else none
   else none
  else
   some (.inr (.inl (d.1,d.2.1,d.2.2.2.1,d.2.2.2.2.1,d.2.2.2.2.2.1,d.2.2.2.2.2.2.1,d.2.2.2.2.2.2.2.1,d.2.2.2.2.2.2.2.2.1,())))
 else none
def JN (dv:mP->O (fh×H)) (d:EV):O (EW⊕H):=b6 (yU dv) d
def vS (dv:mP->O (fh×H)) (d:KN):O (KN⊕((bB×aL×fg×b9×Int×aj×cD×bo×ct×hs×H)⊕H)):=
 let t0:Int:=((d.2.2.2.2.2.2.2.2.2.2.1.length):Int)
 bif d.2.2.1<t0 then
  bif 0<=d.2.2.1&&d.2.2.1<(d.2.2.2.2.2.2.2.2.2.2.1.length:Int) then
   let t1:=(d.2.2.2.2.2.2.2.2.2.2.1.getD (d.2.2.1.toNat) ([],([],())))
   bif ((1:Int)<=(d.2.1.length:Int)&&((d.2.1.length:Int):Int)<=(d.2.1.length:Int)) then
    let t2:=(List.drop (Int.toNat 1) (List.take (Int.toNat (d.2.1.length:Int)) d.2.1))
    match dv (d.2.2.2.1,d.1,t1,t2,d.2.2.2.2.2.1,()) with
    |none=>none
    |some bP=>
     match zL (bP.1.1,bP.1.2.1,()) with
     |none=>none
     |some dz=>
      bif ((d.2.2.2.2.2.2.2.2.2.2.2.2.1.length+List.length ([bP.1.2.1]:ct))*8<=am) then
       let t5:ct:=(d.2.2.2.2.2.2.2.2.2.2.2.2.1++([bP.1.2.1]:ct))
       match nc (dz.1,()) with
       |none=>none
       |some iT=>
        bif ((d.2.2.2.2.2.2.2.2.2.2.2.2.2.1.length+List.length ([iT.1]:hs))*32<=am) then
         let t7:hs:=(d.2.2.2.2.2.2.2.2.2.2.2.2.2.1++([iT.1]:hs))
         some (.inl (d.1,d.2.1,(i64.wrap (d.2.2.1+1)),bP.1.1,d.2.2.2.2.1,d.2.2.2.2.2.1,d.2.2.2.2.2.2.1,d.2.2.2.2.2.2.2.1,d.2.2.2.2.2.2.2.2.1,d.2.2.2.2.2.2.2.2.2.1,d.2.2.2.2.2.2.2.2.2.2.1,d.2.2.2.2.2.2.2.2.2.2.2.1,t5,t7,()))
        else none
      else none
   else none
  else none
 else
  some (.inr (.inl (d.2.2.2.1,d.2.2.2.2.1,d.2.2.2.2.2.1,d.2.2.2.2.2.2.1,d.2.2.2.2.2.2.2.1,d.2.2.2.2.2.2.2.2.1,d.2.2.2.2.2.2.2.2.2.1,d.2.2.2.2.2.2.2.2.2.2.2.1,d.2.2.2.2.2.2.2.2.2.2.2.2.1,d.2.2.2.2.2.2.2.2.2.2.2.2.2.1,())))
def JO (dv:mP->O (fh×H)) (d:KN):O ((bB×aL×fg×b9×Int×aj×cD×bo×ct×hs×H)⊕H):=b6 (vS dv) d
def yV (dv:mP->O (fh×H)) (d:KP):O (KP⊕((b9×Int×qc×bB×H)⊕H)):=
 let t0:=(decide (d.1<((d.2.2.2.2.2.2.2.1.length):Int)))
 bif t0 then
  bif 0<=d.1&&d.1<(d.2.2.2.2.2.2.2.1.length:Int) then
   let t1:=(d.2.2.2.2.2.2.2.1.getD (d.1.toNat) 0)
   match zG (d.2.2.2.2.2.1,t1,()) with
   |none=>none
   |some aS=>
    some (.inl ((i64.wrap (d.1+1)),d.2.1,d.2.2.1,d.2.2.2.1,d.2.2.2.2.1,aS.1,d.2.2.2.2.2.2.1,d.2.2.2.2.2.2.2.1,d.2.2.2.2.2.2.2.2.1,d.2.2.2.2.2.2.2.2.2.1,()))
  else none
 else
  some (.inr (.inl (d.2.1,d.2.2.1,d.2.2.2.2.1,d.2.2.2.2.2.1,())))
def JP (dv:mP->O (fh×H)) (d:KP):O ((b9×Int×qc×bB×H)⊕H):=b6 (yV dv) d
def vT (dv:mP->O (fh×H)) (d:bB×b9×Int×aj×bo×ct×hs×cD×H):O (fh×H):=
 match tV (d.1,(d.2.2.2.1,(d.2.2.2.2.1,(d.2.2.2.2.2.1,(d.2.2.2.2.2.2.1,(d.2.2.2.2.2.2.2.1,()))))),()) with
 |none=>none
 |some aa=>
  match JP dv (0,d.2.1,d.2.2.1,d.2.2.2.1,aa.1,aa.1.1,d.2.2.2.2.1,d.2.2.2.2.2.1,d.2.2.2.2.2.2.1,d.2.2.2.2.2.2.2.1,()) with
  |none=>none
  |some (.inl aD)=>
   some ((aD.2.2.2.1,(aD.2.2.1.2.1,())),())
  |some (.inr aD)=>
   none
def DA (dv:mP->O (fh×H)) (d:Int×bB×aL×fg×b9×Int×aj×cD×bo×ct×hs×H):O (fh×H):=
 bif 0<=d.1&&d.1<4 then
  bif (Nat.beq (d.1.toNat) 3) then
   match vZ (d.2.2.2.1.2.1.2.2.2.1,d.2.2.1,5,()) with
   |none=>none
   |some aa=>
    vT dv (d.2.1,d.2.2.2.2.1,d.2.2.2.2.2.1,d.2.2.2.2.2.2.1,d.2.2.2.2.2.2.2.2.1,d.2.2.2.2.2.2.2.2.2.1,d.2.2.2.2.2.2.2.2.2.2.1,aa.1,())
  else
   bif (Nat.beq (d.1.toNat) 2) then
    match vZ (d.2.2.2.1.2.1.2.2.1,d.2.2.1,5,()) with
    |none=>none
    |some aa=>
     vT dv (d.2.1,d.2.2.2.2.1,d.2.2.2.2.2.1,d.2.2.2.2.2.2.1,d.2.2.2.2.2.2.2.2.1,d.2.2.2.2.2.2.2.2.2.1,d.2.2.2.2.2.2.2.2.2.2.1,aa.1,())
   else
    bif (Nat.beq (d.1.toNat) 1) then
     match vZ (d.2.2.2.1.2.1.2.1,d.2.2.1,5,()) with
     |none=>none
     |some aa=>
      vT dv (d.2.1,d.2.2.2.2.1,d.2.2.2.2.2.1,d.2.2.2.2.2.2.1,d.2.2.2.2.2.2.2.2.1,d.2.2.2.2.2.2.2.2.2.1,d.2.2.2.2.2.2.2.2.2.2.1,aa.1,())
    else
     bif (Nat.beq (d.1.toNat) 0) then
      match vZ (d.2.2.2.1.2.1.1,d.2.2.1,5,()) with
      |none=>none
      |some aa=>
       vT dv (d.2.1,d.2.2.2.2.1,d.2.2.2.2.2.1,d.2.2.2.2.2.2.1,d.2.2.2.2.2.2.2.2.1,d.2.2.2.2.2.2.2.2.2.1,d.2.2.2.2.2.2.2.2.2.2.1,aa.1,())
     else none
 else none
def JM (dv:mP->O (fh×H)) (d:EW):O (fh×H):=
 let t0:=(decide ((((d.2.1.length):Int):Int)=0))
 bif t0 then
  match Fv (d.1,d.2.2.2.1,()) with
  |none=>none
  |some ag=>
   match tV (d.2.2.1,(ag.1,(d.2.2.2.2.2.2.2.1,([],([],([],()))))),()) with
   |none=>none
   |some aS=>
    some ((aS.1.1,(aS.1.2.1,())),())
 else
  let t1:=(i64.wrap (((d.2.2.2.2.2.2.2.1.length):Int)+1))
  bif (0<=t1&&t1<=t1&&t1*8<=(am:Int)) then
   match EC ((([]:aj),(d.2.2.2.2.2.2.2.1,((List.replicate (t1.toNat) (0:Int)),(([]:hs),(([]:cD),()))))),d.2.2.2.1,()) with
   |none=>none
   |some aS=>
    match JO dv (d.1,d.2.1,0,d.2.2.1,d.2.2.2.1,d.2.2.2.2.1,d.2.2.2.2.2.1,d.2.2.2.2.2.2.1,[],[],aS.1,d.2.2.2.2.2.2.2.1,[],[],()) with
    |none=>none
    |some (.inl z3)=>
     let t4:=(!(aB.eqb ac z3.2.1 ([],([],()))))
     bif t4 then
      let t5:Int:=(Int.tmod ((z3.2.1.1.length):Int) 3)
      DA dv ((i64.wrap (1+t5)),z3.1,z3.2.1,z3.2.2.1,z3.2.2.2.1,z3.2.2.2.2.1,z3.2.2.2.2.2.1,z3.2.2.2.2.2.2.1,z3.2.2.2.2.2.2.2.1,z3.2.2.2.2.2.2.2.2.1,z3.2.2.2.2.2.2.2.2.2.1,())
     else
      DA dv (0,z3.1,z3.2.1,z3.2.2.1,z3.2.2.2.1,z3.2.2.2.2.1,z3.2.2.2.2.2.1,z3.2.2.2.2.2.2.1,z3.2.2.2.2.2.2.2.1,z3.2.2.2.2.2.2.2.2.1,z3.2.2.2.2.2.2.2.2.2.1,())
    |some (.inr z3)=>
     none
  else none
def vM (dv:mP->O (fh×H)) (d:mP):O (fh×H):=
 let t0:=(decide ((((d.2.2.2.1.length):Int):Int)>0))
 bif t0 then
  match JN dv (d.2.1,d.2.2.2.1,0,d.1,d.2.2.1,d.2.2.2.2.1,[],0,[],()) with
  |none=>none
  |some (.inl aD)=>
   JM dv (aD.1,aD.2.1,aD.2.2.1,aD.2.2.2.1,aD.2.2.2.2.1,aD.2.2.2.2.2.1,aD.2.2.2.2.2.2.1,aD.2.2.2.2.2.2.2.1,())
  |some (.inr aD)=>
   none
 else
  JM dv (d.2.1,d.2.2.2.1,d.1,d.2.2.1,d.2.2.2.2.1,[],0,[],())
def yL:Nat->mP->O (fh×H)
 |0,_=>none
 |n+1,d=>vM (yL n) d
def Fx (d:mP):O (fh×H):=yL jf d
def FR (d:fg×H):O (cQ×H):=
 match Az (d.1.1,()) with
 |none=>none
 |some aa=>
  let t1:=i64.wrap (Int.tmod d.1.2.2.1 4)
  bif (0<=t1&&t1<(List.length ([[],([([([97,47,98,47]:N),([98,47]:N),([99,47]:N)]:bo)]:List bo),([([([98,47]:N)]:bo),([([97,47,2]:N),([97,47,98,47]:N),([99,47]:N)]:bo)]:List bo),([([([97,47,98,47]:N),([98,47]:N)]:bo),([([97,47,98,47,2]:N),([99,47]:N),([100,47]:N)]:bo)]:List bo)]:List (List bo)):Int)) then
   let t2:=(List.getD ([[],([([([97,47,98,47]:N),([98,47]:N),([99,47]:N)]:bo)]:List bo),([([([98,47]:N)]:bo),([([97,47,2]:N),([97,47,98,47]:N),([99,47]:N)]:bo)]:List bo),([([([97,47,98,47]:N),([98,47]:N)]:bo),([([97,47,98,47,2]:N),([99,47]:N),([100,47]:N)]:bo)]:List bo)]:List (List bo)) (t1.toNat) [])
   match Fx (([],()),aa.1,([],([],())),t2,d.1,()) with
   |none=>none
   |some bP=>
    let t4:=(IntKind.u8.wrap (Int.tdiv d.1.2.2.1 4))
    let t5:=i64.wrap (Int.tmod t4 4)
    let t6:=(IntKind.u8.wrap (Int.tdiv d.1.2.2.1 16))
    let t7:=i64.wrap (Int.tmod t6 3)
    let t8:=(IntKind.u8.wrap (Int.tdiv d.1.2.2.1 64))
    let t9:=i64.wrap (1+(i64.wrap t8))
    some ((bP.1.1,(bP.1.2.1,(((i64.wrap (2+t5)),((i64.wrap (2+t7)),(t9,()))),()))),())
  else none
def qG (d:bi):O (Bool×H):=
 bif d.2.1<=d.1 then
  some ((decide (d.1<=d.2.2.1)),())
 else
  some (false,())
def Mp (d:bH×H):O (Bool×H):=
 match qG (((d.1.2.1.length):Int),1,65535,()) with
 |none=>none
 |some aa=>
  bif aa.1 then
   let t1:=(decide ((((d.1.2.2.1.length):Int):Int)<=64))
   bif t1 then
    match qG (d.1.2.2.2.2.2.2.1,0,1000000000,()) with
    |none=>none
    |some aS=>
     some (aS.1,())
   else
    some (false,())
  else
   some (false,())
def Nb (d:bH×H):O (bH×H):=
 some ((d.1.1,(d.1.2.1,(d.1.2.2.1,(([],([],())),([],([],(d.1.2.2.2.2.2.2.1,()))))))),())
def Mk (d:bH×H):O (Bool×H):=
 match qG (((d.1.2.1.length):Int),1,65535,()) with
 |none=>none
 |some aa=>
  some (aa.1,())
def M9 (d:bH×H):O (bH×H):=
 some ((d.1.1,(d.1.2.1,([],(([],([],())),([],([],(0,()))))))),())
def AW (d:aL×H):O (Bool×H):=
 match la (d.1,()) with
 |none=>none
 |some aa=>
  bif !aa.1 then
   let t1:Int:=(if (((d.1.1.length):Int):Int)<((d.1.2.1.length):Int) then ((d.1.2.1.length):Int) else ((d.1.1.length):Int))
   some ((decide (t1<=65535)),())
  else
   some (false,())
def Lx (d:bH×H):O (Bool×H):=
 match AW (d.1.2.2.2.1,()) with
 |none=>none
 |some aa=>
  some (aa.1,())
def Ml (d:bH×H):O (bH×H):=
 some ((d.1.1,([],([],(d.1.2.2.2.1,([],([],(0,()))))))),())
def AH (d:aL):O (Bool×H):=
 match qG (((d.1.length):Int),1,200,()) with
 |none=>none
 |some aa=>
  bif aa.1 then
   match qG (((d.2.1.length):Int),1,200,()) with
   |none=>none
   |some ag=>
    bif ag.1 then
     match Dh (d.1,d.2.1,()) with
     |none=>none
     |some aS=>
      bif !aS.1 then
       match Dh (d.2.1,d.1,()) with
       |none=>none
       |some bP=>
        some ((!bP.1),())
      else
       some (false,())
    else
     some (false,())
  else
   some (false,())
def Lz (d:bH×H):O (Bool×H):=
 match AH (d.1.2.2.2.2.1,d.1.2.2.2.2.2.1,()) with
 |none=>none
 |some aa=>
  some (aa.1,())
def Mm (d:bH×H):O (bH×H):=
 some ((d.1.1,([],([],(([],([],())),(d.1.2.2.2.2.1,(d.1.2.2.2.2.2.1,(0,()))))))),())
def TJ (d:bH×H):O (Bool×H):=
 match AH (d.1.2.2.2.2.1,d.1.2.2.2.2.2.1,()) with
 |none=>none
 |some aa=>
  some (aa.1,())
def Lt (d:bH×H):O (bH×H):=
 some ((d.1.1,([],([],(([],([],())),(d.1.2.2.2.2.1,(d.1.2.2.2.2.2.1,(0,()))))))),())
def TO (d:bH×H):O (Bool×H):=
 match AW (d.1.2.2.2.1,()) with
 |none=>none
 |some aa=>
  bif aa.1 then
   match qG (d.1.2.2.2.2.2.2.1,0,1000000000,()) with
   |none=>none
   |some ag=>
    some (ag.1,())
  else
   some (false,())
def LB (d:bH×H):O (bH×H):=
 some ((d.1.1,([],([],(d.1.2.2.2.1,([],([],(d.1.2.2.2.2.2.2.1,()))))))),())
def oK (d:bH×H):O (Bool×H):=
 bif d.1.1=1 then
  match Mp (d.1,()) with
  |none=>none
  |some aa=>
   bif aa.1 then
    match Nb (d.1,()) with
    |none=>none
    |some ag=>
     let t2:=(aB.eqb dw ag.1 d.1)
     some (t2,())
   else
    some (false,())
 else
  bif d.1.1=2 then
   match Mk (d.1,()) with
   |none=>none
   |some aa=>
    bif aa.1 then
     match M9 (d.1,()) with
     |none=>none
     |some ag=>
      let t2:=(aB.eqb dw ag.1 d.1)
      some (t2,())
    else
     some (false,())
  else
   bif d.1.1=3 then
    match Lx (d.1,()) with
    |none=>none
    |some aa=>
     bif aa.1 then
      match Ml (d.1,()) with
      |none=>none
      |some ag=>
       let t2:=(aB.eqb dw ag.1 d.1)
       some (t2,())
     else
      some (false,())
   else
    bif d.1.1=4 then
     match Lz (d.1,()) with
     |none=>none
     |some aa=>
      bif aa.1 then
       match Mm (d.1,()) with
       |none=>none
       |some ag=>
        let t2:=(aB.eqb dw ag.1 d.1)
        some (t2,())
      else
       some (false,())
    else
     bif d.1.1=5 then
      match TJ (d.1,()) with
      |none=>none
      |some aa=>
       bif aa.1 then
        match Lt (d.1,()) with
        |none=>none
        |some ag=>
         let t2:=(aB.eqb dw ag.1 d.1)
         some (t2,())
       else
        some (false,())
     else
      bif d.1.1=6 then
       match TO (d.1,()) with
       |none=>none
       |some aa=>
        bif aa.1 then
         match LB (d.1,()) with
         |none=>none
         |some ag=>
          let t2:=(aB.eqb dw ag.1 d.1)
          some (t2,())
        else
         some (false,())
      else
       some (false,())
def va (d:aj×H):O (aj×H):=bif ((List.length ([]:aj)+d.1.length)*40<=am) then some (d.1,()) else none
def HX (d:Int×aj×aj×H):O Ae:=Ah 40 d
def Gf (d:aj×ck×H):O (aj×H):=
 match wu (d.1,d.2.1.1,()) with
 |none=>none
 |some aa=>
  match va (d.1,()) with
  |none=>none
  |some ag=>
   bif aa.2.1 then
    bif 0<=aa.1&&aa.1<(ag.1.length:Int) then
     some ((List.set ag.1 (aa.1.toNat) d.2.1),())
    else none
   else
    match HX (aa.1,ag.1,([d.2.1]:aj),()) with
    |none=>none
    |some aS=>
     some (aS.2.1,())
def Mn (d:w3):O (aj×H):=
 match Gf (d.2.1,(d.1.2.1,(d.1.2.2.1,(d.1.2.2.2.2.2.2.1,()))),()) with
 |none=>none
 |some aa=>
  some (aa.1,())
def Ed (d:wX):O lS:=
 match la (d.2.1,()) with
 |none=>none
 |some aa=>
  bif aa.1 then
   some (0,0,())
  else
   match wu (d.1,d.2.1.1,()) with
   |none=>none
   |some ag=>
    let t2:=(!decide ((d.2.1.2.1:N)=[]))
    bif t2 then
     match wu (d.1,d.2.1.2.1,()) with
     |none=>none
     |some bP=>
      some (ag.1,bP.1,())
    else
     some (ag.1,((d.1.length):Int),())
def H4 (d:Int×H):O (aj×H):=
 bif d.1<0 then
  none
 else
  let t0:=i64.wrap (0-0)
  let t1:=(decide (((i64.wrap (d.1-t0)):Int)>0))
  bif t1 then
   bif (0<(i64.wrap (d.1-t0))&&(i64.wrap (d.1-t0))*40<=(am:Int)) then
    bif (((0:Int):Int)<=(List.length (List.replicate (Int.toNat (i64.wrap (d.1-t0))) (([]:N),(([]:N),((0:Int),())))):Int)) then
     let t2:=(List.take 0 (List.replicate (Int.toNat (i64.wrap (d.1-t0))) (([]:N),(([]:N),((0:Int),())))))
     some (t2,())
    else none
   else none
  else
   some ([],())
def qD (d:T9):O (T9⊕(((List aj)×Int×H)⊕H)):=
 let t0:=decide (d.2.2.2.2.1<d.2.2.2.1)
 bif t0 then
  bif 0<=d.2.2.2.2.1&&d.2.2.2.2.1<(d.2.2.1.length:Int) then
   let t1:=(d.2.2.1.getD (d.2.2.2.2.1.toNat) [])
   let t2:=(i64.wrap (d.2.1+((t1.length):Int)))
   bif t2<0 then
    none
   else
    let t3:=i64.wrap (d.2.2.2.2.1+1)
    some (.inl (d.1,t2,d.2.2.1,d.2.2.2.1,t3,()))
  else none
 else
  some (.inr (.inl (d.1,d.2.1,())))
def i7:=b6 qD
def qQ (d:(List aj)×Int×Int×aj×H):O (((List aj)×Int×Int×aj×H)⊕((aj×H)⊕H)):=
 bif d.2.2.1<d.2.1 then
  bif 0<=d.2.2.1&&d.2.2.1<(d.1.length:Int) then
   let t0:=(d.1.getD (d.2.2.1.toNat) [])
   bif (d.2.2.2.1.length+t0.length)*40<=am then
    some (.inl (d.1,d.2.1,(i64.wrap (d.2.2.1+1)),(d.2.2.2.1++t0),()))
   else none
  else none
 else
  some (.inr (.inl (d.2.2.2.1,())))
def i8:=b6 qQ
def HW (d:(List aj)×H):O (aj×H):=
 match i7 (d.1,0,d.1,((d.1.length):Int),0,()) with
 |none=>none
 |some (.inl z0)=>
  match H4 (z0.2.1,()) with
  |none=>none
  |some ag=>
   match i8 (z0.1,((z0.1.length):Int),0,ag.1,()) with
   |none=>none
   |some (.inl z2)=>
    some (z2.1,())
   |some (.inr z2)=>
    none
 |some (.inr z0)=>
  none
def tO (d:wX):O (aj×H):=
 match Ed (d.1,d.2.1,()) with
 |none=>none
 |some aa=>
  bif (0:Int)<=aa.1&&aa.1<=(d.1.length:Int) then
   let t1:=(List.drop 0 (List.take (aa.1.toNat) d.1))
   bif (0<=aa.2.1&&aa.2.1<=(d.1.length:Int)&&((d.1.length:Int):Int)<=(d.1.length:Int)) then
    let t2:=(List.drop (aa.2.1.toNat) (List.take (Int.toNat (d.1.length:Int)) d.1))
    match HW (([t1,t2]:List aj),()) with
    |none=>none
    |some bP=>
     some (bP.1,())
   else none
  else none
def OQ (d:E4):O (aj×H):=
 match qq (d.2.1,()) with
 |none=>none
 |some aa=>
  match tO (d.1,aa.1,()) with
  |none=>none
  |some ag=>
   some (ag.1,())
def Mi (d:w3):O (aj×H):=
 match OQ (d.2.1,d.1.2.1,()) with
 |none=>none
 |some aa=>
  some (aa.1,())
def Lv (d:w3):O (aj×H):=
 match tO (d.2.1,d.1.2.2.2.1,()) with
 |none=>none
 |some aa=>
  some (aa.1,())
def FB (d:wX):O (aj×H):=
 match Ed (d.1,d.2.1,()) with
 |none=>none
 |some aa=>
  bif (0<=aa.1&&aa.1<=aa.2.1&&aa.2.1<=(d.1.length:Int)&&aa.2.1=aa.2.1) then
   let t1:=(List.drop (aa.1.toNat) (List.take (aa.2.1.toNat) d.1))
   some (t1,())
  else none
def zd (d:UH):O (UH⊕((aj×H)⊕H)):=
 bif d.2.2.2.1<d.2.2.1 then
  bif 0<=d.2.2.2.1&&d.2.2.2.1<(d.2.2.2.2.1.length:Int) then
   let t0:=(d.2.2.2.2.1.getD (d.2.2.2.1.toNat) ([],([],(0,()))))
   match wz (t0.1,d.1,d.2.1,()) with
   |none=>none
   |some ag=>
    bif 0<=d.2.2.2.1&&d.2.2.2.1<(d.2.2.2.2.1.length:Int) then
     let t2:=(List.set d.2.2.2.2.1 (d.2.2.2.1.toNat) (ag.1,(d.2.2.2.2.1.getD (d.2.2.2.1.toNat) ([],([],(0,())))).2))
     let t3:=i64.wrap (d.2.2.2.1+1)
     some (.inl (d.1,d.2.1,d.2.2.1,t3,t2,()))
    else none
  else none
 else
  some (.inr (.inl (d.2.2.2.2.1,())))
def Na:=b6 zd
def F6 (d:aj×N×N×H):O (aj×H):=
 match lX (d.2.1,()) with
 |none=>none
 |some aa=>
  match FB (d.1,aa.1,()) with
  |none=>none
  |some ag=>
   match va (ag.1,()) with
   |none=>none
   |some aS=>
    match Na (d.2.1,d.2.2.1,((aS.1.length):Int),0,aS.1,()) with
    |none=>none
    |some (.inl z3)=>
     some (z3.1,())
    |some (.inr z3)=>
     none
def Ti (d:r8):O (r8⊕(r8⊕H)):=
 bif (0:Int)<(d.2.1.length:Int) then
  let t0:=(d.2.1.getD 0 ([],([],(0,()))))
  bif ((d.2.2.1.length+List.length ([t0]:aj))*40<=am) then
   let t1:aj:=(d.2.2.1++([t0]:aj))
   bif ((1:Int)<=(d.2.1.length:Int)&&((d.2.1.length:Int):Int)<=(d.2.1.length:Int)) then
    let t2:=(List.drop (Int.toNat 1) (List.take (Int.toNat (d.2.1.length:Int)) d.2.1))
    some (.inl (d.1,t2,t1,()))
   else none
  else none
 else none
def Di (d:aj×aj×Bool×aj×H):O (r8⊕(r8⊕H)):=
 bif d.2.2.1 then
  some (.inr (.inl (d.1,d.2.1,d.2.2.2.1,())))
 else
  bif (0:Int)<(d.1.length:Int) then
   let t0:=(d.1.getD 0 ([],([],(0,()))))
   bif (0:Int)<(d.2.1.length:Int) then
    let t1:=(d.2.1.getD 0 ([],([],(0,()))))
    bif (Op.bytesLess t0.1 t1.1) then
     bif (0:Int)<(d.1.length:Int) then
      let t2:=(d.1.getD 0 ([],([],(0,()))))
      bif ((d.2.2.2.1.length+List.length ([t2]:aj))*40<=am) then
       let t3:aj:=(d.2.2.2.1++([t2]:aj))
       bif ((1:Int)<=(d.1.length:Int)&&((d.1.length:Int):Int)<=(d.1.length:Int)) then
        let t4:=(List.drop (Int.toNat 1) (List.take (Int.toNat (d.1.length:Int)) d.1))
        some (.inl (t4,d.2.1,t3,()))
       else none
      else none
     else none
    else
     bif (0:Int)<(d.1.length:Int) then
      let t2:=(d.1.getD 0 ([],([],(0,()))))
      bif (0:Int)<(d.2.1.length:Int) then
       let t3:=(d.2.1.getD 0 ([],([],(0,()))))
       bif (t2.1:N)=t3.1 then
        bif ((1:Int)<=(d.1.length:Int)&&((d.1.length:Int):Int)<=(d.1.length:Int)) then
         let t4:=(List.drop (Int.toNat 1) (List.take (Int.toNat (d.1.length:Int)) d.1))
         Ti (t4,d.2.1,d.2.2.2.1,())
        else none
       else
        Ti (d.1,d.2.1,d.2.2.2.1,())
      else none
     else none
   else none
  else none
def yW (d:r8):O (r8⊕(r8⊕H)):=
 let t0:=(decide ((((d.1.length):Int):Int)=0))
 bif !t0 then
  let t1:=(decide ((((d.2.1.length):Int):Int)=0))
  Di (d.1,d.2.1,t1,d.2.2.1,())
 else
  Di (d.1,d.2.1,true,d.2.2.1,())
def L6:=b6 yW
def FC (d:Ae):O (aj×H):=
 let t0:=(i64.wrap (((d.1.length):Int)+((d.2.1.length):Int)))
 bif (0<=0&&(0:Int)<=t0&&t0*40<=(am:Int)) then
  match L6 (d.1,d.2.1,(List.replicate 0 (([]:N),(([]:N),((0:Int),())))),()) with
  |none=>none
  |some (.inl aD)=>
   bif (aD.2.2.1.length+aD.1.length)*40<=am then
    bif ((List.length (aD.2.2.1++aD.1)+aD.2.1.length)*40<=am) then
     some (((aD.2.2.1++aD.1)++aD.2.1),())
    else none
   else none
  |some (.inr aD)=>
   none
 else none
def Ds (d:w3):O (aj×H):=
 match lX (d.1.2.2.2.2.2.1,()) with
 |none=>none
 |some aa=>
  match tO (d.2.1,aa.1,()) with
  |none=>none
  |some ag=>
   match F6 (d.2.1,d.1.2.2.2.2.1,d.1.2.2.2.2.2.1,()) with
   |none=>none
   |some aS=>
    match FC (ag.1,aS.1,()) with
    |none=>none
    |some bP=>
     some (bP.1,())
def JK (d:w3):O (aj×H):=
 match Ds (d.1,d.2.1,()) with
 |none=>none
 |some aa=>
  match lX (d.1.2.2.2.2.1,()) with
  |none=>none
  |some ag=>
   match tO (aa.1,ag.1,()) with
   |none=>none
   |some aS=>
    some (aS.1,())
def Dd (d:Int×Int×bH×aj×H):O ((Int×Int×bH×aj×H)⊕((aj×H)⊕H)):=
 bif d.2.1<d.1 then
  bif 0<=d.2.1&&d.2.1<(d.2.2.2.1.length:Int) then
   let t0:=(d.2.2.2.1.getD (d.2.1.toNat) ([],([],(0,()))))
   match pz (d.2.2.1.2.2.2.1,t0.1,()) with
   |none=>none
   |some ag=>
    bif ag.1 then
     bif 0<=d.2.1&&d.2.1<(d.2.2.2.1.length:Int) then
      let t2:=(List.set d.2.2.2.1 (d.2.1.toNat) ((d.2.2.2.1.getD (d.2.1.toNat) ([],([],(0,())))).1,((d.2.2.2.1.getD (d.2.1.toNat) ([],([],(0,())))).2.1,(d.2.2.1.2.2.2.2.2.2.1,(d.2.2.2.1.getD (d.2.1.toNat) ([],([],(0,())))).2.2.2))))
      some (.inl (d.1,(i64.wrap (d.2.1+1)),d.2.2.1,t2,()))
     else none
    else
     some (.inl (d.1,(i64.wrap (d.2.1+1)),d.2.2.1,d.2.2.2.1,()))
  else none
 else
  some (.inr (.inl (d.2.2.2.1,())))
def Tc:=b6 Dd
def TM (d:w3):O (aj×H):=
 match va (d.2.1,()) with
 |none=>none
 |some aa=>
  match Tc (((aa.1.length):Int),0,d.1,aa.1,()) with
  |none=>none
  |some (.inl aD)=>
   some (aD.1,())
  |some (.inr aD)=>
   none
def qk (d:aj×bH×H):O (aj×H):=
 bif d.2.1.1=1 then
  match Mn (d.2.1,d.1,()) with
  |none=>none
  |some aa=>
   some (aa.1,())
 else
  bif d.2.1.1=2 then
   match Mi (d.2.1,d.1,()) with
   |none=>none
   |some aa=>
    some (aa.1,())
  else
   bif d.2.1.1=3 then
    match Lv (d.2.1,d.1,()) with
    |none=>none
    |some aa=>
     some (aa.1,())
   else
    bif d.2.1.1=4 then
     match JK (d.2.1,d.1,()) with
     |none=>none
     |some aa=>
      some (aa.1,())
    else
     bif d.2.1.1=5 then
      match Ds (d.2.1,d.1,()) with
      |none=>none
      |some aa=>
       some (aa.1,())
     else
      bif d.2.1.1=6 then
       match TM (d.2.1,d.1,()) with
       |none=>none
       |some aa=>
        some (aa.1,())
      else
       some (d.1,())
def pj (d:b9×ct×b9×H):O ((b9×ct×b9×H)⊕((b9×b9×H)⊕H)):=
 let t0:=(decide ((((d.2.1.length):Int):Int)>0))
 bif t0 then
  let t1:=(i64.wrap (((d.2.1.length):Int)-1))
  bif 0<=t1&&t1<(d.2.1.length:Int) then
   let t2:=(d.2.1.getD (t1.toNat) 0)
   let t3:=(i64.wrap (((d.2.1.length):Int)-1))
   bif (0:Int)<=t3&&t3<=(d.2.1.length:Int) then
    bif 0<=t2&&t2<(d.2.2.1.length:Int) then
     let t4:=(d.2.2.1.getD (t2.toNat) (false,(false,(0,(([],([],([],([],([],()))))),())))))
     let t5:=i64.wrap (t4.2.2.1-1)
     let t6:=(List.set d.2.2.1 (t2.toNat) ((d.2.2.1.getD (t2.toNat) (false,(false,(0,(([],([],([],([],([],()))))),()))))).1,((d.2.2.1.getD (t2.toNat) (false,(false,(0,(([],([],([],([],([],()))))),()))))).2.1,(t5,(d.2.2.1.getD (t2.toNat) (false,(false,(0,(([],([],([],([],([],()))))),()))))).2.2.2))))
     let t7:=(t6.getD (t2.toNat) (false,(false,(0,(([],([],([],([],([],()))))),())))))
     bif t7.2.2.1>0 then
      some (.inl (d.1,(List.take (t3.toNat) d.2.1),t6,()))
     else
      let t8:=(t6.getD (t2.toNat) (false,(false,(0,(([],([],([],([],([],()))))),())))))
      bif ((List.length (List.take (t3.toNat) d.2.1)+t8.2.2.2.1.2.2.1.length)*8<=am) then
       let t9:=(List.take (t3.toNat) d.2.1++t8.2.2.2.1.2.2.1)
       let t10:=(List.set t6 (t2.toNat) (false,(false,(0,(([],([],([],([],([],()))))),())))))
       some (.inl (d.1,t9,t10,()))
      else none
    else none
   else none
  else none
 else
  some (.inr (.inl (d.1,d.2.2.1,())))
def Kk:=b6 pj
def nb (d:fh):O fh:=
 match mt (d.1,d.2.1,()) with
 |none=>none
 |some aa=>
  bif !aa.1 then
   some (d.1,110,())
  else
   match zD (d.1,()) with
   |none=>none
   |some ag=>
    match Kk ([],([d.2.1]:ct),ag.1,()) with
    |none=>none
    |some (.inl z2)=>
     some ((z2.2.1,()),0,())
    |some (.inr z2)=>
     none
def IG (d:cD×H):O (cD×H):=
 bif (0<=0&&(0:Int)<=((d.1.length):Int)&&(((d.1.length):Int):Int)<=(d.1.length:Int)&&(((d.1.length):Int):Int)=((d.1.length):Int)) then
  let t0:=(List.drop 0 (List.take (Int.toNat ((d.1.length):Int)) d.1))
  some (t0,())
 else none
def un (d:cQ×bH×H):O (cQ×Int×H):=
 match oK (d.2.1,()) with
 |none=>none
 |some aa=>
  bif !aa.1 then
   some (d.1,50,())
  else
   match ik (d.1.1,d.1.2.1,()) with
   |none=>none
   |some ag=>
    bif (!(ag.2.1=0)) then
     some (d.1,ag.2.1,())
    else
     match tX (ag.1,()) with
     |none=>none
     |some aS=>
      bif aS.1 then
       match qk (ag.1.1,d.2.1,()) with
       |none=>none
       |some bP=>
        match lV (d.1.1,(bP.1,(ag.1.2.1,(ag.1.2.2.1,(ag.1.2.2.2.1,(ag.1.2.2.2.2.1,()))))),()) with
        |none=>none
        |some dz=>
         bif (!(dz.2.2.1=0)) then
          some (d.1,dz.2.2.1,())
         else
          match nb (dz.1,d.1.2.1,()) with
          |none=>none
          |some gu=>
           bif (!(gu.2.1=0)) then
            some (d.1,gu.2.1,())
           else
            some ((gu.1,(dz.2.1,(d.1.2.2.1,()))),0,())
      else
       match IG (ag.1.2.2.2.2.1,()) with
       |none=>none
       |some bP=>
        bif (0<List.length ([d.2.1]:cD)&&(bP.1.length+List.length ([d.2.1]:cD))*112<=am) then
         let t4:cD:=(bP.1++([d.2.1]:cD))
         match lV (d.1.1,(ag.1.1,(ag.1.2.1,(ag.1.2.2.1,(ag.1.2.2.2.1,(t4,()))))),()) with
         |none=>none
         |some gu=>
          bif (!(gu.2.2.1=0)) then
           some (d.1,gu.2.2.1,())
          else
           match nb (gu.1,d.1.2.1,()) with
           |none=>none
           |some iT=>
            bif (!(iT.2.1=0)) then
             some (d.1,iT.2.1,())
            else
             some ((iT.1,(gu.2.1,(d.1.2.2.1,()))),0,())
        else none
def Yi (d:Int×cQ×cE×H):O ((Int×cQ×cE×H)⊕((Int×H)⊕H)):=
 match tX (d.2.2.1,()) with
 |none=>none
 |some aa=>
  bif !aa.1 then
   bif (0:Int)<(d.2.2.1.2.2.1.length:Int) then
    match ik (d.2.1.1,(d.2.2.1.2.2.1.getD 0 0),()) with
    |none=>none
    |some ag=>
     some (.inl ((i64.wrap (d.1+1)),d.2.1,ag.1,()))
   else none
  else
   some (.inr (.inl (d.1,())))
def Yk:=b6 Yi
def NX (d:cQ×H):O (Int×H):=
 match ik (d.1.1,d.1.2.1,()) with
 |none=>none
 |some aa=>
  match Yk (1,d.1,aa.1,()) with
  |none=>none
  |some (.inl aD)=>
   some (aD.1,())
  |some (.inr aD)=>
   none
def ze (d:Int×b9×Int×Int×H):O ((Int×b9×Int×Int×H)⊕((Int×H)⊕H)):=
 bif d.2.2.2.1<d.2.2.1 then
  bif 0<=d.2.2.2.1&&d.2.2.2.1<(d.2.1.length:Int) then
   let t0:=(d.2.1.getD (d.2.2.2.1.toNat) (false,(false,(0,(([],([],([],([],([],()))))),())))))
   bif t0.1 then
    let t1:=i64.wrap (d.2.2.2.1+1)
    some (.inl ((i64.wrap (d.1+1)),d.2.1,d.2.2.1,t1,()))
   else
    let t1:=i64.wrap (d.2.2.2.1+1)
    some (.inl (d.1,d.2.1,d.2.2.1,t1,()))
  else none
 else
  some (.inr (.inl (d.1,())))
def Nd:=b6 ze
def Ga (d:bB×H):O (Int×H):=
 match Nd (0,d.1.1,((d.1.1.length):Int),0,()) with
 |none=>none
 |some (.inl z0)=>
  some (z0.1,())
 |some (.inr z0)=>
  none
def NG (d:H):O (cQ×H):=
 match tV (([],()),(([(([97,47,120]:N),(([49]:N),(0,())))]:aj),([],([],([],([],()))))),()) with
 |none=>none
 |some aa=>
  match tV (aa.1.1,([],([],([],([],([],()))))),()) with
  |none=>none
  |some ag=>
   match tV (ag.1.1,([],(([([98,47]:N)]:bo),(([aa.1.2.1,ag.1.2.1]:ct),(([((0,(0,())),((0,(0,())),())),((0,(0,())),((0,(0,())),()))]:hs),(([(4,([],([],(([],([],())),(([97,47]:N),(([99,47]:N),(0,())))))))]:cD),()))))),()) with
   |none=>none
   |some aS=>
    match zG (aS.1.1,aa.1.2.1,()) with
    |none=>none
    |some bP=>
     match zG (bP.1,ag.1.2.1,()) with
     |none=>none
     |some dz=>
      some ((dz.1,(aS.1.2.1,((2,(2,(1,()))),()))),())
def qU (d:Int×aL×au×bB×Int×H):O (bB×Int×Int×aL×au×H):=
 some (d.2.2.2.1,d.2.2.2.2.1,d.1,d.2.1,d.2.2.1,())
def H6 (d:au×H):O (au×H):=bif ((List.length ([]:au)+d.1.length)*32<=am) then some (d.1,()) else none
def BY (d:l6):O (l6⊕((Int×au×H)⊕(au×H))):=
 bif d.2.1<d.1 then
  bif 0<=d.2.1&&d.2.1<(d.2.2.1.length:Int) then
   let t0:=(d.2.2.1.getD (d.2.1.toNat) ([],([],())))
   match la (t0,()) with
   |none=>none
   |some ag=>
    bif ag.1 then
     some (.inr (.inl (d.2.1,d.2.2.1,())))
    else
     some (.inl (d.1,(i64.wrap (d.2.1+1)),d.2.2.1,()))
  else none
 else
  some (.inr (.inr (d.2.2.1,())))
def Qr:=b6 BY
def xL (d:au×H):O (Int×au×H):=
 match Qr (((d.1.length):Int),0,d.1,()) with
 |none=>none
 |some (.inl z0)=>
  some (z0.1,z0.2.1,())
 |some (.inr z0)=>
  some ((-1:Int),z0.1,())
def xJ (d:l6):O (l6⊕((Int×au×H)⊕H)):=
 let t0:=(decide (d.2.1<((d.2.2.1.length):Int)))
 bif t0 then
  bif 0<=d.2.1&&d.2.1<(d.2.2.1.length:Int) then
   let t1:=(d.2.2.1.getD (d.2.1.toNat) ([],([],())))
   match la (t1,()) with
   |none=>none
   |some aS=>
    bif !aS.1 then
     bif 0<=d.1&&d.1<(d.2.2.1.length:Int) then
      some (.inl ((i64.wrap (d.1+1)),(i64.wrap (d.2.1+1)),(List.set d.2.2.1 (d.1.toNat) t1),()))
     else none
    else
     some (.inl (d.1,(i64.wrap (d.2.1+1)),d.2.2.1,()))
  else none
 else
  some (.inr (.inl (d.1,d.2.2.1,())))
def QH:=b6 xJ
def BS (d:au×H):O (au×H):=
 match xL (d.1,()) with
 |none=>none
 |some aa=>
  bif aa.1=(-1:Int) then
   some (aa.2.1,())
  else
   match QH (aa.1,(i64.wrap (aa.1+1)),aa.2.1,()) with
   |none=>none
   |some (.inl aD)=>
    bif (0<=aD.1&&aD.1<=(aD.2.1.length:Int)&&((aD.2.1.length:Int):Int)<=(aD.2.1.length:Int)) then
     let t2:=(List.take (aD.1.toNat) aD.2.1++List.replicate ((Int.toNat (aD.2.1.length:Int))-(aD.1.toNat)) (([]:N),(([]:N),()))++List.drop ((aD.1.toNat)+((Int.toNat (aD.2.1.length:Int))-(aD.1.toNat))) aD.2.1)
     bif (0:Int)<=aD.1&&aD.1<=(t2.length:Int) then
      some ((List.take (aD.1.toNat) t2),())
     else none
    else none
   |some (.inr aD)=>
    none
def yA (d:lS):O (Int×H):=
 bif (0<=(IntKind.u8.wrap d.1)&&((IntKind.u8.wrap d.1):Int)<(List.length ([0,1,2,2,3,3,3,3,4,4,4,4,4,4,4,4,5,5,5,5,5,5,5,5,5,5,5,5,5,5,5,5,6,6,6,6,6,6,6,6,6,6,6,6,6,6,6,6,6,6,6,6,6,6,6,6,6,6,6,6,6,6,6,6,7,7,7,7,7,7,7,7,7,7,7,7,7,7,7,7,7,7,7,7,7,7,7,7,7,7,7,7,7,7,7,7,7,7,7,7,7,7,7,7,7,7,7,7,7,7,7,7,7,7,7,7,7,7,7,7,7,7,7,7,7,7,7,7,8,8,8,8,8,8,8,8,8,8,8,8,8,8,8,8,8,8,8,8,8,8,8,8,8,8,8,8,8,8,8,8,8,8,8,8,8,8,8,8,8,8,8,8,8,8,8,8,8,8,8,8,8,8,8,8,8,8,8,8,8,8,8,8,8,8,8,8,8,8,8,8,8,8,8,8,8,8,8,8,8,8,8,8,8,8,8,8,8,8,8,8,8,8,8,8,8,8,8,8,8,8,8,8,8,8,8,8,8,8,8,8,8,8,8,8,8,8,8,8,8,8,8,8,8,8,8,8]:N):Int)) then
  let t0:Int:=((List.getD ([0,1,2,2,3,3,3,3,4,4,4,4,4,4,4,4,5,5,5,5,5,5,5,5,5,5,5,5,5,5,5,5,6,6,6,6,6,6,6,6,6,6,6,6,6,6,6,6,6,6,6,6,6,6,6,6,6,6,6,6,6,6,6,6,7,7,7,7,7,7,7,7,7,7,7,7,7,7,7,7,7,7,7,7,7,7,7,7,7,7,7,7,7,7,7,7,7,7,7,7,7,7,7,7,7,7,7,7,7,7,7,7,7,7,7,7,7,7,7,7,7,7,7,7,7,7,7,7,8,8,8,8,8,8,8,8,8,8,8,8,8,8,8,8,8,8,8,8,8,8,8,8,8,8,8,8,8,8,8,8,8,8,8,8,8,8,8,8,8,8,8,8,8,8,8,8,8,8,8,8,8,8,8,8,8,8,8,8,8,8,8,8,8,8,8,8,8,8,8,8,8,8,8,8,8,8,8,8,8,8,8,8,8,8,8,8,8,8,8,8,8,8,8,8,8,8,8,8,8,8,8,8,8,8,8,8,8,8,8,8,8,8,8,8,8,8,8,8,8,8,8,8,8,8,8,8]:N) (Int.toNat (IntKind.u8.wrap d.1)) 0).toNat:Int)
  let t1:=i64.wrap (d.2.1+(i64.wrap t0))
  some (t1,())
 else none
def I0 (d:lS):O (Int×H):=
 bif d.1>=256 then
  let t0:Int:=(Int.fdiv d.1 (2^(min (Int.toNat 8) IntKind.u64.bits)))
  yA (t0,(i64.wrap (d.2.1+8)),())
 else
  yA (d.1,d.2.1,())
def yz (d:lS):O (Int×H):=
 bif d.1>=65536 then
  let t0:Int:=(Int.fdiv d.1 (2^(min (Int.toNat 16) IntKind.u64.bits)))
  I0 (t0,(i64.wrap (d.2.1+16)),())
 else
  I0 (d.1,d.2.1,())
def TH (d:Int×H):O (Int×H):=
 let t0:=decide (d.1>=4294967296)
 bif t0 then
  let t1:Int:=(Int.fdiv d.1 (2^(min (Int.toNat 32) IntKind.u64.bits)))
  yz (t1,32,())
 else
  yz (d.1,0,())
end D
