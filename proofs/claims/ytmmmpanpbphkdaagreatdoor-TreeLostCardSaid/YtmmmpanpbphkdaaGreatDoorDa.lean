import Derived.Test.YtmmmpanpbphkdaaGreatDoorXD
set_option linter.unusedVariables false
open Go Go.X
open Go.IntKind (i64)
namespace D
abbrev M:=List UInt8
abbrev G:=Unit
abbrev N (α:Type):=Option α
abbrev bc:=List M
abbrev dR:=List Int
abbrev fh:=List Nat
abbrev kK:Type:=Int×Int×G
abbrev iF:Type:=M×Int×G
abbrev hi:Type:=Int×Int×Int×G
abbrev lZ:=List hi
abbrev tM:Type:=kK×G
abbrev aK:Type:=M×M×G
abbrev aq:=List aK
abbrev b5:Type:=M×M×Int×G
abbrev aj:=List b5
abbrev jZ:Type:=M×Int×Int×M×G
abbrev eQ:Type:=kK×kK×G
abbrev hH:=List eQ
abbrev px:Type:=b5×Bool×Int×Int×G
abbrev oE:Type:=Bool×Bool×b5×M×Bool×Int×G
abbrev bB:Type:=Int×M×M×aK×M×M×Int×G
abbrev cG:=List bB
abbrev cZ:Type:=aj×bc×dR×hH×cG×G
abbrev da:=List cZ
abbrev e4:Type:=lZ×((List (Int×Int×Int×Int×Int×Int×G))×(List (Int×Int×Int×Int×Int×Int×G))×(List (Int×Int×Int×Int×Int×Int×G))×(List (Int×Int×Int×Int×Int×Int×G))×G)×Int×G
abbrev jb:Type:=Bool×Bool×Int×cZ×G
abbrev cN:=List jb
abbrev bZ:Type:=cN×G
abbrev fi:Type:=bZ×Int×G
abbrev qf:Type:=bZ×Int×Int×G
abbrev c4:Type:=bZ×Int×hi×G
@[reducible] def iQ:aB:=(.pair (.int .i64) (.pair (.int .i64) .unit))
@[reducible] def rH:aB:=(.pair (.int .i64) iQ)
@[reducible] def aaR:aB:=(.pair iQ .unit)
@[reducible] def ac:aB:=(.pair .str (.pair .str .unit))
@[reducible] def bs:aB:=(.pair .str (.pair .str (.pair (.int .i64) .unit)))
@[reducible] def hr:aB:=(.pair .str (.pair (.int .i64) (.pair (.int .i64) (.pair .str .unit))))
@[reducible] def eA:aB:=(.pair iQ aaR)
@[reducible] def ao4:aB:=(.pair .str (.pair .bool (.pair .bool (.pair .str (.pair .bool (.pair (.int .i64) .unit))))))
@[reducible] def Af:aB:=(.pair bs (.pair .bool iQ))
@[reducible] def Ji:aB:=(.pair (.pair .str .unit) (.pair hr .unit))
@[reducible] def jW:aB:=(.pair .bool (.pair .bool (.pair bs (.pair .str (.pair .bool (.pair (.int .i64) .unit))))))
@[reducible] def dx:aB:=(.pair (.int .i64) (.pair .str (.pair .str (.pair ac bs))))
@[reducible] def er:aB:=(.pair (.list bs) (.pair (.list .str) (.pair (.list (.int .i64)) (.pair (.list eA) (.pair (.list dx) .unit)))))
@[reducible] def mR:aB:=(.pair (.list (.pair (.int .u8) (.pair (.int .u8) (.pair (.int .u8) .unit)))) (.pair (.pair (.list (.pair (.int .u8) (.pair (.int .u8) (.pair (.int .u8) (.pair (.int .u8) (.pair (.int .u8) (.pair (.int .u8) .unit))))))) (.pair (.list (.pair (.int .u8) (.pair (.int .u8) (.pair (.int .u8) (.pair (.int .u8) (.pair (.int .u8) (.pair (.int .u8) .unit))))))) (.pair (.list (.pair (.int .u8) (.pair (.int .u8) (.pair (.int .u8) (.pair (.int .u8) (.pair (.int .u8) (.pair (.int .u8) .unit))))))) (.pair (.list (.pair (.int .u8) (.pair (.int .u8) (.pair (.int .u8) (.pair (.int .u8) (.pair (.int .u8) (.pair (.int .u8) .unit))))))) .unit)))) (.pair (.int .u8) .unit)))
@[reducible] def hZ:aB:=(.pair .bool (.pair .bool (.pair (.int .i64) (.pair er .unit))))
@[reducible] def dC:aB:=(.pair (.list hZ) .unit)
@[reducible] def fK:aB:=(.pair dC (.pair (.int .i64) .unit))
@[reducible] def kC:aB:=(.pair dC iQ)
@[reducible] def fY:aB:=(.pair dC (.pair (.int .i64) (.pair rH .unit)))
abbrev Ud:Type:=M×M×M×(Int×Int×Int×Int×Int×Int×G)×Int×M×M×M×M×M×M×Int×aK×G
abbrev Ue:Type:=Int×Int×cG×Bool×Bool×M×M×Int×M×Bool×Int×Bool×Bool×M×M×Int×M×Bool×Int×G
abbrev Kz:Type:=aj×(List bc)×Int×bZ×aK×e4×cN×Int×aj×cG×aq×bc×dR×hH×G
abbrev EC:Type:=Int×cG×Bool×Bool×M×M×Int×M×Bool×Int×Bool×Bool×M×M×Int×M×Bool×Int×G
abbrev Ks:Type:=Bool×Int×Bool×Bool×M×M×Int×M×Bool×Int×Bool×Bool×M×M×Int×M×Bool×Int×G
abbrev TQ:Type:=Bool×Bool×Int×(Int×Int×Int×Int×Int×Int×G)×c4×Int×hi×bc×cN×G
abbrev TR:Type:=Bool×Bool×Int×(Int×Int×Int×Int×Int×Int×G)×c4×Int×hi×aq×cN×G
abbrev ED:Type:=aj×(List bc)×Int×bZ×aK×e4×cN×Int×bc×G
abbrev Kt:Type:=Int×cN×Int×aj×qf×bZ×bc×dR×hH×cG×G
abbrev TS:Type:=aq×Int×Int×aq×Int×Int×aq×aK×aq×G
abbrev EE:Type:=aj×(List bc)×bZ×aK×e4×cN×Int×bc×G
abbrev TT:Type:=Int×Int×Bool×Int×Int×aK×aq×bZ×Int×aj×aj×G
abbrev RK:Type:=aj×aq×Int×Int×bZ×Int×cZ×aK×aq×G
abbrev Ku:Type:=aj×Int×Int×bZ×Int×cZ×aq×aq×aj×G
abbrev TU:Type:=hH×Int×Int×cZ×Int×Int×Int×Int×Int×Int×Int×Int×G
abbrev uk:Type:=Int×Int×Int×Int×aK×aq×bZ×Int×aj×aj×G
abbrev TV:Type:=M×Int×List oE×c4×M×M×Int×Bool×Int×G
abbrev wK:Type:=bB×Bool×Bool×M×M×Int×M×Bool×Int×G
abbrev TW:Type:=M×bc×Int×Int×aK×aq×G
abbrev Kv:Type:=(List (Int×Int×Int×Int×Int×Int×G))×Int×Int×cG×G
abbrev zK:Type:=cG×Int×Int×Int×Int×Int×Int×Int×Int×Int×Int×G
abbrev TX:Type:=M×bc×Int×Int×cZ×aK×G
abbrev TY:Type:=bc×M×Int×aK×aq×G
abbrev TZ:Type:=Int×Int×Int×Bool×Bool×Int×Int×Bool×aq×G
abbrev T0:Type:=Int×Int×Int×aq×bB×aK×aq×G
abbrev T1:Type:=Int×Bool×M×M×Int×Int×M×G
abbrev mG:Type:=bZ×aj×aK×(List bc)×e4×G
abbrev TM:Type:=Int×Int×Int×Bool×Bool×Int×Int×aq×G
abbrev Kq:Type:=aq×Int×Int×aq×aq×G
abbrev mF:Type:=Int×Int×aK×aq×bZ×Int×aj×G
abbrev Kr:Type:=M×Int×M×Int×Int×M×G
abbrev TO:Type:=M×aq×Int×Int×aq×G
abbrev TP:Type:=(List aj)×Int×(List aj)×Int×Int×G
abbrev ES:Type:=Int×Int×Int×Int×bZ×cZ×aq×G
abbrev Ug:Type:=Int×Int×cZ×cN×Int×Int×cN×G
abbrev Uh:Type:=M×M×Int×bc×G
abbrev Ui:Type:=bc×M×Int×Int×Int×G
abbrev ET:Type:=Int×cZ×Int×Int×Int×Int×eQ×G
abbrev zS:Type:=M×M×Int×Int×M×G
abbrev zT:Type:=M×M×M×dR×G
abbrev EU:Type:=Bool×jZ×M×Int×Int×M×G
abbrev Uk:Type:=dR×Int×Int×bZ×cZ×cN×G
abbrev Ul:Type:=Int×dR×Int×Int×cN×cN×G
abbrev nh:Type:=cZ×aK×aq×bZ×Int×G
abbrev Um:Type:=M×M×Int×Int×aj×G
abbrev qD:Type:=Int×Int×Int×Bool×Bool×aq×G
abbrev Un:Type:=Int×Int×Int×Int×Bool×aq×G
abbrev wQ:Type:=Int×Int×Int×Int×Int×aq×G
abbrev KJ:Type:=Int×Int×Int×Int×aq×Int×G
abbrev Uo:Type:=aj×Int×Int×Int×Int×Int×Int×G
abbrev Up:Type:=aj×Bool×Int×Bool×b5×aj×G
abbrev KK:Type:=M×Int×M×M×G
abbrev Uq:Type:=dR×Int×Int×cZ×aK×G
abbrev zU:Type:=Int×bZ×cZ×cN×Int×Int×G
abbrev EV:Type:=Int×Int×aq×aq×G
abbrev KL:Type:=Int×Int×aK×cG×cG×G
abbrev EN:Type:=aj×aq×Int×aj×G
abbrev l0:Type:=Int×Int×Int×Int×aq×G
abbrev EO:Type:=Int×Int×aq×aK×G
abbrev pM:Type:=aj×Bool×Int×b5×aj×G
abbrev EP:Type:=Int×Int×aj×aq×G
abbrev n7:Type:=Int×Int×Int×Int×Int×Int×G
abbrev KA:Type:=Int×List oE×b5×Bool×Int×G
abbrev eP:Type:=Int×Int×Int×aq×G
abbrev zR:Type:=M×M×Bool×G
abbrev KB:Type:=aq×aq×G
abbrev ER:Type:=Int×cG×aq×G
abbrev KC:Type:=Int×bZ×cZ×aj×G
abbrev r5:Type:=aj×aj×aj×G
abbrev l1:Type:=Int×Int×aq×G
abbrev KD:Type:=Int×aq×Int×G
abbrev r6:Type:=bZ×Int×aK×Int×G
abbrev KE:Type:=dR×bZ×List Bool×G
abbrev r7:Type:=aq×aK×G
abbrev KF:Type:=lZ×Int×aj×G
abbrev wP:Type:=aj×aq×G
abbrev KG:Type:=M×Int×Bool×G
abbrev KH:Type:=M×Int×Int×G
abbrev KI:Type:=aK×M×G
abbrev EL:Type:=aj×M×G
abbrev uq:Type:=aK×aK×G
abbrev zP:Type:=cZ×aK×G
abbrev wL:Type:=aj×aK×G
abbrev zQ:Type:=aj×aj×G
abbrev wM:Type:=M×Bool×G
abbrev EM:Type:=c4×M×G
abbrev wR:Type:=bB×aj×G
abbrev EW:Type:=Int×Bool×G
abbrev ur:Type:=c4×Int×G
def rF (d:aK):N (Bool×G):=
 let t0:=(!decide ((d.1:M)=[]))
 bif t0 then
  let t1:=decide ((d.2.1:M)=[])
  bif !t1 then
   some ((Op.bytesLess d.1 d.2.1),())
  else
   some (true,())
 else
  some (false,())
def oD (d:aK×G):N (Bool×G):=
 let t0:=(!decide ((d.1.2.1:M)=[]))
 bif t0 then
  let t1:=(Op.bytesLess d.1.2.1 d.1.1||decide ((d.1.2.1:M)=d.1.1))
  some (t1,())
 else
  some (false,())
def NQ (d:G):N (aK×G):=
 some ((([97]:M),(([97]:M),())),())
def JN (d:M×M×M×M×G):N (aK×G):=
 match oD ((d.2.2.1,(d.2.2.2.1,())),()) with
 |none=>none
 |some Q=>
  bif Q.1 then
   match NQ (()) with
   |none=>none
   |some ah=>
    some (ah.1,())
  else
   some ((d.2.2.1,(d.2.2.2.1,())),())
def Ai (d:uq):N (aK×G):=
 let t0:M:=(bif !(Op.bytesLess d.1.1 d.2.1.1) then d.1.1 else d.2.1.1)
 match rF (d.2.1.2.1,d.1.2.1,()) with
 |none=>none
 |some ah=>
  bif ah.1 then
   JN ([],[],t0,d.2.1.2.1,())
  else
   JN ([],[],t0,d.1.2.1,())
def Dl (d:TY):N (TY⊕((M×aK×aq×G)⊕G)):=
 let t0:=(decide (d.2.2.1<((d.1.length):Int)))
 bif t0 then
  bif decide (0<=d.2.2.1)&&decide (d.2.2.1<(d.1.length:Int)) then
   let t1:=(d.1.getD (d.2.2.1.toNat) [])
   match Ai (d.2.2.2.1,(d.2.1,(t1,())),()) with
   |none=>none
   |some aJ=>
    bif (decide ((d.2.2.2.2.1.length+List.length ([aJ.1]:aq))*32<=bp)) then
     let t3:aq:=(d.2.2.2.2.1++([aJ.1]:aq))
     bif decide (0<=d.2.2.1)&&decide (d.2.2.1<(d.1.length:Int)) then
      let t4:=(d.1.getD (d.2.2.1.toNat) [])
      some (.inl (d.1,t4,(i64.wrap (d.2.2.1+1)),d.2.2.2.1,t3,()))
     else none
    else none
  else none
 else
  some (.inr (.inl (d.2.1,d.2.2.2.1,d.2.2.2.2.1,())))
def Lv:=b4 Dl
def za (d:aK×bc×G):N (aq×G):=
 match Lv (d.2.1,[],0,d.1,[],()) with
 |none=>none
 |some (.inl z0)=>
  match Ai (z0.2.1,(z0.1,([],())),()) with
  |none=>none
  |some ah=>
   bif (decide ((z0.2.2.1.length+List.length ([ah.1]:aq))*32<=bp)) then
    let t2:aq:=(z0.2.2.1++([ah.1]:aq))
    some (t2,())
   else none
 |some (.inr z0)=>
  none
def El (d:zP):N (aq×G):=
 let t0:=(decide ((((d.1.2.2.1.length):Int):Int)=0))
 bif t0 then
  some ([],())
 else
  match za (d.2.1,d.1.2.1,()) with
  |none=>none
  |some ah=>
   some (ah.1,())
def At (d:KI):N (Bool×G):=
 bif (!(Op.bytesLess d.2.1 d.1.1)) then
  let t0:=decide ((d.1.2.1:M)=[])
  bif !t0 then
   some ((Op.bytesLess d.2.1 d.1.2.1),())
  else
   some (true,())
 else
  some (false,())
def Dm (d:aj×Int×aK×aj×G):N ((aj×Int×aK×aj×G)⊕((aj×G)⊕G)):=
 let t0:=(decide (d.2.1<((d.1.length):Int)))
 bif t0 then
  bif decide (0<=d.2.1)&&decide (d.2.1<(d.1.length:Int)) then
   let t1:=(d.1.getD (d.2.1.toNat) ([],([],(0,()))))
   match At (d.2.2.1,t1.1,()) with
   |none=>none
   |some aJ=>
    bif aJ.1 then
     bif decide (0<=d.2.1)&&decide (d.2.1<(d.1.length:Int)) then
      let t3:=(d.1.getD (d.2.1.toNat) ([],([],(0,()))))
      bif (decide ((d.2.2.2.1.length+List.length ([t3]:aj))*40<=bp)) then
       let t4:aj:=(d.2.2.2.1++([t3]:aj))
       some (.inl (d.1,(i64.wrap (d.2.1+1)),d.2.2.1,t4,()))
      else none
     else none
    else
     some (.inl (d.1,(i64.wrap (d.2.1+1)),d.2.2.1,d.2.2.2.1,()))
  else none
 else
  some (.inr (.inl (d.2.2.2.1,())))
def Lw:=b4 Dm
def E9 (d:wL):N (aj×G):=
 match Lw (d.1,0,d.2.1,[],()) with
 |none=>none
 |some (.inl z0)=>
  some (z0.1,())
 |some (.inr z0)=>
  none
def wi (d:fi):N (Bool×G):=
 bif decide (d.2.1>=0) then
  let t0:=(decide (d.2.1<((d.1.1.length):Int)))
  bif t0 then
   bif decide (0<=d.2.1)&&decide (d.2.1<(d.1.1.length:Int)) then
    let t1:=(d.1.1.getD (d.2.1.toNat) (false,(false,(0,(([],([],([],([],([],()))))),())))))
    some (t1.1,())
   else none
  else
   some (false,())
 else
  some (false,())
def DU (d:bZ×G):N bZ:=
 bif (decide ((List.length ([]:cN)+d.1.1.length)*136<=bp)) then
  let t0:cN:=([]++d.1.1)
  some (t0,())
 else none
def DZ (d:zU):N (zU⊕(qf⊕(bZ×cZ×cN×Int×Int×G))):=
 let t0:=(decide (d.1<((d.2.2.1.2.2.1.length):Int)))
 bif t0 then
  bif decide (0<=d.1)&&decide (d.1<(d.2.2.1.2.2.1.length:Int)) then
   let t1:=(d.2.2.1.2.2.1.getD (d.1.toNat) 0)
   match wi (d.2.1,t1,()) with
   |none=>none
   |some aJ=>
    bif !aJ.1 then
     some (.inr (.inl (d.2.1,0,110,())))
    else
     some (.inl ((i64.wrap (d.1+1)),d.2.1,d.2.2.1,d.2.2.2.1,d.2.2.2.2.1,d.2.2.2.2.2.1,()))
  else none
 else
  some (.inr (.inr (d.2.1,d.2.2.1,d.2.2.2.1,d.2.2.2.2.1,d.2.2.2.2.2.1,())))
def MY:=b4 DZ
def D0 (d:zU):N (zU⊕(zU⊕G)):=
 let t0:=(decide (d.1<((d.2.1.1.length):Int)))
 bif t0 then
  bif decide (0<=d.1)&&decide (d.1<(d.2.1.1.length:Int)) then
   let t1:=(d.2.1.1.getD (d.1.toNat) (false,(false,(0,(([],([],([],([],([],()))))),())))))
   bif t1.1 then
    some (.inl ((i64.wrap (d.1+1)),d.2.1,d.2.2.1,d.2.2.2.1,d.2.2.2.2.1,d.2.2.2.2.2.1,()))
   else
    some (.inr (.inl (d.1,d.2.1,d.2.2.1,d.2.2.2.1,d.2.2.2.2.1,d.2.2.2.2.2.1,())))
  else none
 else
  some (.inr (.inl (d.1,d.2.1,d.2.2.1,d.2.2.2.1,d.2.2.2.2.1,d.2.2.2.2.2.1,())))
def MZ:=b4 D0
def D1 (d:Ug):N (Ug⊕((Int×cN×Int×Int×cN×G)⊕G)):=
 let t0:=(decide (d.2.1<((d.2.2.1.2.2.1.length):Int)))
 bif t0 then
  bif decide (0<=d.2.1)&&decide (d.2.1<(d.2.2.1.2.2.1.length:Int)) then
   let t1:=(d.2.2.1.2.2.1.getD (d.2.1.toNat) 0)
   bif decide (0<=t1)&&decide (t1<(d.2.2.2.2.2.2.1.length:Int)) then
    let t2:=(d.2.2.2.2.2.2.1.getD (t1.toNat) (false,(false,(0,(([],([],([],([],([],()))))),())))))
    let t3:=i64.wrap (t2.2.2.1+1)
    bif decide (0<=t1)&&decide (t1<(d.2.2.2.2.2.2.1.length:Int)) then
     let t4:=(List.set d.2.2.2.2.2.2.1 (t1.toNat) ((d.2.2.2.2.2.2.1.getD (t1.toNat) (false,(false,(0,(([],([],([],([],([],()))))),()))))).1,((d.2.2.2.2.2.2.1.getD (t1.toNat) (false,(false,(0,(([],([],([],([],([],()))))),()))))).2.1,(t3,(d.2.2.2.2.2.2.1.getD (t1.toNat) (false,(false,(0,(([],([],([],([],([],()))))),()))))).2.2.2))))
     some (.inl (d.1,(i64.wrap (d.2.1+1)),d.2.2.1,d.2.2.2.1,d.2.2.2.2.1,d.2.2.2.2.2.1,t4,()))
    else none
   else none
  else none
 else
  some (.inr (.inl (d.1,d.2.2.2.1,d.2.2.2.2.1,d.2.2.2.2.2.1,d.2.2.2.2.2.2.1,())))
def M0:=b4 D1
def MX (d:Int×cZ×cN×Int×Int×cN×G):N (qf×G):=
 bif decide (0<=d.1)&&decide (d.1<(d.2.2.2.2.2.1.length:Int)) then
  let t0:=(List.set d.2.2.2.2.2.1 (d.1.toNat) (true,(false,(1,(d.2.1,())))))
  match M0 (d.1,0,d.2.1,d.2.2.1,d.2.2.2.1,d.2.2.2.2.1,t0,()) with
  |none=>none
  |some (.inl aG)=>
   some (((aG.2.2.2.2.1,()),(aG.1,(0,()))),())
  |some (.inr aG)=>
   none
 else none
def tR (d:bZ×cZ×G):N (qf×G):=
 match MY (0,d.1,d.2.1,[],0,0,()) with
 |none=>none
 |some (.inl z0)=>
  some ((z0.1,(z0.2.1,(z0.2.2.1,()))),())
 |some (.inr z0)=>
  match MZ (0,z0.1,z0.2.1,z0.2.2.1,z0.2.2.2.1,z0.2.2.2.2.1,()) with
  |none=>none
  |some (.inl aG)=>
   bif decide (aG.1>=4096) then
    some ((aG.2.1,(0,(111,()))),())
   else
    match DU (aG.2.1,()) with
    |none=>none
    |some aJ=>
     let t3:=(decide (aG.1=((aJ.1.length):Int)))
     bif t3 then
      bif (decide ((aJ.1.length+List.length ([(false,(false,(0,(([],([],([],([],([],()))))),()))))]:cN))*136<=bp)) then
       let t4:cN:=(aJ.1++([(false,(false,(0,(([],([],([],([],([],()))))),()))))]:cN))
       MX (aG.1,aG.2.2.1,aG.2.2.2.1,aG.2.2.2.2.1,aG.2.2.2.2.2.1,t4,())
      else none
     else
      MX (aG.1,aG.2.2.1,aG.2.2.2.1,aG.2.2.2.2.1,aG.2.2.2.2.2.1,aJ.1,())
  |some (.inr aG)=>
   none
def Ak (d:eQ×eQ×G):N (eQ×G):=
 let t0:Int:=(if ((i64.wrap (d.1.1.1+d.2.1.1.1)):Int)<1000000000000000 then (i64.wrap (d.1.1.1+d.2.1.1.1)) else 1000000000000000)
 let t1:=i64.wrap (d.1.1.2.1+d.2.1.1.2.1)
 let t2:Int:=(if (t1:Int)<1000000000000000 then t1 else 1000000000000000)
 let t3:=i64.wrap (d.1.2.1.1+d.2.1.2.1.1)
 let t4:Int:=(if (t3:Int)<1000000000000000 then t3 else 1000000000000000)
 let t5:=i64.wrap (d.1.2.1.2.1+d.2.1.2.1.2.1)
 let t6:Int:=(if (t5:Int)<1000000000000000 then t5 else 1000000000000000)
 some (((t0,(t2,())),((t4,(t6,())),())),())
def Lu (d:M×Int×Bool×M×Int×Int×M×M×Int×Int×M×G):N (jZ×G):=
 bif d.2.2.1 then
  bif decide ((1:Int)<=d.2.1)&&decide (d.2.1<=(d.1.length:Int)) then
   let t0:=(List.drop (Int.toNat 1) (List.take (d.2.1.toNat) d.1))
   some ((t0,(4,(d.2.2.2.2.2.2.2.2.2.1,(d.2.2.2.2.2.2.2.2.2.2.1,())))),())
  else none
 else
  some ((d.2.2.2.2.2.2.2.1,(d.2.2.2.2.2.2.2.2.1,(d.2.2.2.2.2.2.2.2.2.1,(d.2.2.2.2.2.2.2.2.2.2.1,())))),())
def XQ (d:M×Int×M×Int×Int×M×M×Int×Int×M×G):N (jZ×G):=
 let t0:=decide (d.2.2.2.2.2.2.2.1=1)
 bif t0 then
  bif decide (d.2.1>0) then
   bif decide ((0:Int)<(d.1.length:Int)) then
    let t1:=(decide ((((d.1.getD 0 0).toNat:Int):Int)=6))
    Lu (d.1,d.2.1,t1,d.2.2.1,d.2.2.2.1,d.2.2.2.2.1,d.2.2.2.2.2.1,d.2.2.2.2.2.2.1,d.2.2.2.2.2.2.2.1,d.2.2.2.2.2.2.2.2.1,d.2.2.2.2.2.2.2.2.2.1,())
   else none
  else
   Lu (d.1,d.2.1,false,d.2.2.1,d.2.2.2.1,d.2.2.2.2.1,d.2.2.2.2.2.1,d.2.2.2.2.2.2.1,d.2.2.2.2.2.2.2.1,d.2.2.2.2.2.2.2.2.1,d.2.2.2.2.2.2.2.2.2.1,())
 else
  Lu (d.1,d.2.1,false,d.2.2.1,d.2.2.2.1,d.2.2.2.2.1,d.2.2.2.2.2.1,d.2.2.2.2.2.2.1,d.2.2.2.2.2.2.2.1,d.2.2.2.2.2.2.2.2.1,d.2.2.2.2.2.2.2.2.2.1,())
def XP (d:M×Int×M×M×Int×Int×M×M×Int×Int×M×G):N (jZ×G):=
 let t0:=decide (d.2.2.2.2.2.2.2.2.1=3)
 bif t0 then
  XQ (d.1,d.2.1,d.2.2.2.1,d.2.2.2.2.1,d.2.2.2.2.2.1,d.2.2.2.2.2.2.1,d.2.2.2.2.2.2.2.1,d.2.2.2.2.2.2.2.2.1,d.2.2.2.2.2.2.2.2.2.1,d.2.2.1,())
 else
  XQ (d.1,d.2.1,d.2.2.2.1,d.2.2.2.2.1,d.2.2.2.2.2.1,d.2.2.2.2.2.2.1,d.2.2.2.2.2.2.2.1,d.2.2.2.2.2.2.2.2.1,d.2.2.2.2.2.2.2.2.2.1,d.2.2.2.2.2.2.2.2.2.2.1,())
def XR (d:M×Int×M×Bool×M×Int×Int×M×M×Int×Int×M×G):N (jZ×G):=
 bif d.2.2.2.1 then
  bif decide ((0:Int)<(d.2.2.1.length:Int)) then
   let t0:=i64.wrap ((d.2.2.1.getD 0 0).toNat:Int)
   bif decide ((1:Int)<(d.2.2.1.length:Int)) then
    let t1:Int:=((d.2.2.1.getD (Int.toNat 1) 0).toNat:Int)
    let t2:=(i64.wrap ((i64.wrap (256*t0))+(i64.wrap t1)))
    XP (d.1,d.2.1,d.2.2.1,d.2.2.2.2.1,d.2.2.2.2.2.1,d.2.2.2.2.2.2.1,d.2.2.2.2.2.2.2.1,d.2.2.2.2.2.2.2.2.1,d.2.2.2.2.2.2.2.2.2.1,t2,d.2.2.2.2.2.2.2.2.2.2.2.1,())
   else none
  else none
 else
  XP (d.1,d.2.1,d.2.2.1,d.2.2.2.2.1,d.2.2.2.2.2.1,d.2.2.2.2.2.2.1,d.2.2.2.2.2.2.2.1,d.2.2.2.2.2.2.2.2.1,d.2.2.2.2.2.2.2.2.2.1,d.2.2.2.2.2.2.2.2.2.2.1,d.2.2.2.2.2.2.2.2.2.2.2.1,())
def aac (d:iF):N (jZ×G):=
 bif decide ((0:Int)<=d.2.1)&&decide (d.2.1<=(d.1.length:Int)) then
  let t0:=(List.drop 0 (List.take (d.2.1.toNat) d.1))
  bif decide (0<=d.2.1)&&decide (d.2.1<(d.1.length:Int)) then
   let t1:Int:=((d.1.getD (d.2.1.toNat) 0).toNat:Int)
   bif (decide (0<=(i64.wrap (d.2.1+1)))&&decide (((i64.wrap (d.2.1+1)):Int)<=(d.1.length:Int))&&decide (((d.1.length:Int):Int)<=(d.1.length:Int))) then
    let t2:=(List.drop (Int.toNat (i64.wrap (d.2.1+1))) (List.take (Int.toNat (d.1.length:Int)) d.1))
    let t3:=(decide (((i64.wrap t1):Int)=2))
    bif t3 then
     let t4:=(decide ((((t2.length):Int):Int)=2))
     XR (d.1,d.2.1,t2,t4,[],0,0,[],t0,(i64.wrap t1),0,[],())
    else
     XR (d.1,d.2.1,t2,false,[],0,0,[],t0,(i64.wrap t1),0,[],())
   else none
  else none
 else none
def Xe (d:Uh):N (Uh⊕((M×bc×G)⊕G)):=
 let t0:=(decide (d.2.2.1<((d.1.length):Int)))
 bif t0 then
  bif decide (0<=d.2.2.1)&&decide (d.2.2.1<(d.1.length:Int)) then
   let t1:Int:=((d.1.getD (d.2.2.1.toNat) 0).toNat:Int)
   bif decide (t1=47) then
    bif (decide ((d.2.2.2.1.length+List.length ([d.2.1]:bc))*16<=bp)) then
     let t2:bc:=(d.2.2.2.1++([d.2.1]:bc))
     some (.inl (d.1,[],(i64.wrap (d.2.2.1+1)),t2,()))
    else none
   else
    bif (decide (0<=d.2.2.1)&&decide (d.2.2.1<=(i64.wrap (d.2.2.1+1)))&&decide (((i64.wrap (d.2.2.1+1)):Int)<=(d.1.length:Int))) then
     let t2:=(List.drop (d.2.2.1.toNat) (List.take (Int.toNat (i64.wrap (d.2.2.1+1))) d.1))
     bif decide (d.2.1.length+t2.length<=bp) then
      some (.inl (d.1,(d.2.1++t2),(i64.wrap (d.2.2.1+1)),d.2.2.2.1,()))
     else none
    else none
  else none
 else
  some (.inr (.inl (d.2.1,d.2.2.2.1,())))
def Xg:=b4 Xe
def aab (d:M×G):N (Bool×bc×G):=
 match Xg (d.1,[],0,[],()) with
 |none=>none
 |some (.inl z0)=>
  let t1:=decide ((z0.1:M)=[])
  some (t1,z0.2.1,())
 |some (.inr z0)=>
  none
def Za (d:iF):N (iF⊕((Bool×G)⊕G)):=
 let t0:=(decide (d.2.1<((d.1.length):Int)))
 bif t0 then
  bif decide (0<=d.2.1)&&decide (d.2.1<(d.1.length:Int)) then
   let t1:Int:=((d.1.getD (d.2.1.toNat) 0).toNat:Int)
   bif (!(decide (t1<33))) then
    bif decide (0<=d.2.1)&&decide (d.2.1<(d.1.length:Int)) then
     let t2:Int:=((d.1.getD (d.2.1.toNat) 0).toNat:Int)
     bif (!(decide (t2>126))) then
      bif decide (0<=d.2.1)&&decide (d.2.1<(d.1.length:Int)) then
       let t3:Int:=((d.1.getD (d.2.1.toNat) 0).toNat:Int)
       bif decide (t3=47) then
        some (.inr (.inl (false,())))
       else
        some (.inl (d.1,(i64.wrap (d.2.1+1)),()))
      else none
     else
      some (.inr (.inl (false,())))
    else none
   else
    some (.inr (.inl (false,())))
  else none
 else
  some (.inr (.inr (())))
def Zc:=b4 Za
def NP (d:M×G):N (Bool×G):=
 let t0:=(decide ((((d.1.length):Int):Int)<1))
 bif !t0 then
  let t1:=(decide ((((d.1.length):Int):Int)>12))
  bif !t1 then
   let t2:=decide ((d.1:M)=([46]:M))
   bif !t2 then
    let t3:=decide ((d.1:M)=([46,46]:M))
    bif t3 then
     some (false,())
    else
     match Zc (d.1,0,()) with
     |none=>none
     |some (.inl z4)=>
      some (z4.1,())
     |some (.inr z4)=>
      some (true,())
   else
    some (false,())
  else
   some (false,())
 else
  some (false,())
def Xl (d:Bool×Int×bc×G):N ((Bool×Int×bc×G)⊕((Bool×G)⊕(Bool×G))):=
 let t0:=(decide (d.2.1<((d.2.2.1.length):Int)))
 bif t0 then
  bif decide (0<=d.2.1)&&decide (d.2.1<(d.2.2.1.length:Int)) then
   let t1:=(d.2.2.1.getD (d.2.1.toNat) [])
   match NP (t1,()) with
   |none=>none
   |some aJ=>
    bif !aJ.1 then
     some (.inr (.inl (false,())))
    else
     some (.inl (d.1,(i64.wrap (d.2.1+1)),d.2.2.1,()))
  else none
 else
  some (.inr (.inr (d.1,())))
def Xn:=b4 Xl
def Ej (d:M×G):N (Bool×G):=
 match aab (d.1,()) with
 |none=>none
 |some Q=>
  match Xn (Q.1,0,Q.2.1,()) with
  |none=>none
  |some (.inl aG)=>
   some (aG.1,())
  |some (.inr aG)=>
   some (aG.1,())
def Y6 (d:Int×M×Int×G):N ((Int×M×Int×G)⊕((M×G)⊕G)):=
 bif decide (d.2.2.1<8) then
  let t0:=i64.wrap ((Int.tmod d.1 16)+1)
  bif (decide (0<=(Int.tmod d.1 16))&&decide (((Int.tmod d.1 16):Int)<=t0)&&decide (t0<=(List.length ([48,49,50,51,52,53,54,55,56,57,97,98,99,100,101,102]:M):Int))) then
   let t1:=(List.drop (Int.toNat (Int.tmod d.1 16)) (List.take (t0.toNat) ([48,49,50,51,52,53,54,55,56,57,97,98,99,100,101,102]:M)))
   bif decide (t1.length+d.2.1.length<=bp) then
    let t2:=i64.wrap (Int.tdiv d.1 16)
    some (.inl (t2,(t1++d.2.1),(i64.wrap (d.2.2.1+1)),()))
   else none
  else none
 else
  some (.inr (.inl (d.2.1,())))
def Y9:=b4 Y6
def Y8 (d:EW):N (M×G):=
 bif d.2.1 then
  some ([],())
 else
  match Y9 (d.1,[],0,()) with
  |none=>none
  |some (.inl z0)=>
   bif decide (List.length ([5]:M)+z0.1.length<=bp) then
    bif (decide (List.length (([5]:M)++z0.1)+List.length ([47]:M)<=bp)) then
     let t1:M:=((([5]:M)++z0.1)++([47]:M))
     some (t1,())
    else none
   else none
  |some (.inr z0)=>
   none
def aaY (d:Int×G):N (M×G):=
 bif (!(decide (d.1<0))) then
  let t0:=decide (d.1>2147483647)
  Y8 (d.1,t0,())
 else
  Y8 (d.1,true,())
def Vo (d:M×Int×Int×Int×Bool×G):N (KH⊕(iF⊕G)):=
 bif d.2.2.2.2.1 then
  let t0:=(i64.wrap ((i64.wrap (16*d.2.1))+d.2.2.2.1))
  some (.inl (d.1,(i64.wrap (t0-48)),(i64.wrap (d.2.2.1+1)),()))
 else
  let t0:=(i64.wrap ((i64.wrap (16*d.2.1))+d.2.2.2.1))
  let t1:=(i64.wrap ((i64.wrap (t0-97))+10))
  some (.inl (d.1,t1,(i64.wrap (d.2.2.1+1)),()))
def WX (d:KH):N (KH⊕(iF⊕G)):=
 bif decide (d.2.2.1<9) then
  bif decide (0<=d.2.2.1)&&decide (d.2.2.1<(d.1.length:Int)) then
   let t0:Int:=((d.1.getD (d.2.2.1.toNat) 0).toNat:Int)
   let t1:=(decide (((i64.wrap t0):Int)>=48))
   bif t1 then
    let t2:=(decide (((i64.wrap t0):Int)<=57))
    Vo (d.1,d.2.1,d.2.2.1,(i64.wrap t0),t2,())
   else
    Vo (d.1,d.2.1,d.2.2.1,(i64.wrap t0),false,())
  else none
 else
  some (.inr (.inl (d.1,d.2.1,())))
def WZ:=b4 WX
def JW (d:M×G):N (Bool×G):=
 let t0:=(!decide ((((d.1.length):Int):Int)=10))
 bif t0 then
  some (false,())
 else
  match WZ (d.1,0,1,()) with
  |none=>none
  |some (.inl aG)=>
   match aaY (aG.2.1,()) with
   |none=>none
   |some aJ=>
    some ((decide ((aJ.1:M)=aG.1)),())
  |some (.inr aG)=>
   none
def lB (d:Bool×jZ×G):N ((jZ×G)⊕(Bool×G)):=
 bif d.1 then
  some (.inr (false,()))
 else
  some (.inl (d.2.1,()))
def nl (d:jZ×G):N ((Bool×G)⊕G):=
 bif decide (d.1.2.1=4) then
  match Ej (d.1.1,()) with
  |none=>none
  |some Q=>
   some (.inl (Q.1,()))
 else
  some (.inl (false,()))
def lC (d:jZ×G):N ((Bool×G)⊕G):=
 bif decide (d.1.2.1=1) then
  some (.inl (true,()))
 else
  bif decide (d.1.2.1=2) then
   bif decide (d.1.2.2.1>=0) then
    let t0:=decide (d.1.2.2.1<=60000)
    some (.inl (t0,()))
   else
    some (.inl (false,()))
  else
   bif decide (d.1.2.1=3) then
    match NP (d.1.2.2.2.1,()) with
    |none=>none
    |some Q=>
     some (.inl (Q.1,()))
   else
    match nl (d.1,()) with
    |none=>none
    |some (.inl z0)=>
     some (.inl (z0.1,()))
    |some (.inr z0)=>
     none
def aad (d:jZ×G):N (Bool×G):=
 match Ej (d.1.1,()) with
 |none=>none
 |some Q=>
  bif !Q.1 then
   match JW (d.1.1,()) with
   |none=>none
   |some ah=>
    bif (!(!ah.1)) then
     bif (!decide (d.1.2.1=2)) then
      let t2:=(!decide (d.1.2.2.1=0))
      bif !t2 then
       bif (!decide (d.1.2.1=3)) then
        let t3:=(!decide ((d.1.2.2.2.1:M)=[]))
        match lB (t3,d.1,()) with
        |none=>none
        |some (.inl z4)=>
         match lC (z4.1,()) with
         |none=>none
         |some (.inl z5)=>
          some (z5.1,())
         |some (.inr z5)=>
          none
        |some (.inr z4)=>
         some (z4.1,())
       else
        match lB (false,d.1,()) with
        |none=>none
        |some (.inl z3)=>
         match lC (z3.1,()) with
         |none=>none
         |some (.inl z4)=>
          some (z4.1,())
         |some (.inr z4)=>
          none
        |some (.inr z3)=>
         some (z3.1,())
      else
       match lB (true,d.1,()) with
       |none=>none
       |some (.inl z3)=>
        match lC (z3.1,()) with
        |none=>none
        |some (.inl z4)=>
         some (z4.1,())
        |some (.inr z4)=>
         none
       |some (.inr z3)=>
        some (z3.1,())
     else
      bif (!decide (d.1.2.1=3)) then
       let t2:=(!decide ((d.1.2.2.2.1:M)=[]))
       match lB (t2,d.1,()) with
       |none=>none
       |some (.inl z3)=>
        match lC (z3.1,()) with
        |none=>none
        |some (.inl z4)=>
         some (z4.1,())
        |some (.inr z4)=>
         none
       |some (.inr z3)=>
        some (z3.1,())
      else
       match lB (false,d.1,()) with
       |none=>none
       |some (.inl z2)=>
        match lC (z2.1,()) with
        |none=>none
        |some (.inl z3)=>
         some (z3.1,())
        |some (.inr z3)=>
         none
       |some (.inr z2)=>
        some (z2.1,())
    else
     match lB (true,d.1,()) with
     |none=>none
     |some (.inl z2)=>
      match lC (z2.1,()) with
      |none=>none
      |some (.inl z3)=>
       some (z3.1,())
      |some (.inr z3)=>
       none
     |some (.inr z2)=>
      some (z2.1,())
  else
   bif (!decide (d.1.2.1=2)) then
    let t1:=(!decide (d.1.2.2.1=0))
    bif !t1 then
     bif (!decide (d.1.2.1=3)) then
      let t2:=(!decide ((d.1.2.2.2.1:M)=[]))
      match lB (t2,d.1,()) with
      |none=>none
      |some (.inl z3)=>
       match lC (z3.1,()) with
       |none=>none
       |some (.inl z4)=>
        some (z4.1,())
       |some (.inr z4)=>
        none
      |some (.inr z3)=>
       some (z3.1,())
     else
      match lB (false,d.1,()) with
      |none=>none
      |some (.inl z2)=>
       match lC (z2.1,()) with
       |none=>none
       |some (.inl z3)=>
        some (z3.1,())
       |some (.inr z3)=>
        none
      |some (.inr z2)=>
       some (z2.1,())
    else
     match lB (true,d.1,()) with
     |none=>none
     |some (.inl z2)=>
      match lC (z2.1,()) with
      |none=>none
      |some (.inl z3)=>
       some (z3.1,())
      |some (.inr z3)=>
       none
     |some (.inr z2)=>
      some (z2.1,())
   else
    bif (!decide (d.1.2.1=3)) then
     let t1:=(!decide ((d.1.2.2.2.1:M)=[]))
     match lB (t1,d.1,()) with
     |none=>none
     |some (.inl z2)=>
      match lC (z2.1,()) with
      |none=>none
      |some (.inl z3)=>
       some (z3.1,())
      |some (.inr z3)=>
       none
     |some (.inr z2)=>
      some (z2.1,())
    else
     match lB (false,d.1,()) with
     |none=>none
     |some (.inl aG)=>
      match lC (aG.1,()) with
      |none=>none
      |some (.inl z2)=>
       some (z2.1,())
      |some (.inr z2)=>
       none
     |some (.inr aG)=>
      some (aG.1,())
def aa9 (d:jZ×G):N iF:=
 match aad (d.1,()) with
 |none=>none
 |some Q=>
  bif !Q.1 then
   some ([],12,())
  else
   bif decide (d.1.2.1=1) then
    bif decide (d.1.1.length+List.length ([1]:M)<=bp) then
     some ((d.1.1++([1]:M)),0,())
    else none
   else
    bif decide (d.1.2.1=2) then
     bif decide (d.1.1.length+List.length ([2]:M)<=bp) then
      let t1:=i64.wrap (Int.tdiv d.1.2.2.1 256)
      let t2:=(IntKind.u8.wrap (Int.tmod d.1.2.2.1 256))
      let t3:M:=(tZ ([(IntKind.u8.wrap t1),t2]:dR))
      bif (decide (List.length (d.1.1++([2]:M))+t3.length<=bp)) then
       some (((d.1.1++([2]:M))++t3),0,())
      else none
     else none
    else
     bif decide (d.1.2.1=3) then
      bif decide (d.1.1.length+List.length ([3]:M)<=bp) then
       bif (decide (List.length (d.1.1++([3]:M))+d.1.2.2.2.1.length<=bp)) then
        let t1:M:=((d.1.1++([3]:M))++d.1.2.2.2.1)
        some (t1,0,())
       else none
      else none
     else
      bif decide (List.length ([6]:M)+d.1.1.length<=bp) then
       bif (decide (List.length (([6]:M)++d.1.1)+List.length ([1]:M)<=bp)) then
        let t1:M:=((([6]:M)++d.1.1)++([1]:M))
        some (t1,0,())
       else none
      else none
def Vk (d:M×Int×Bool×M×Int×Int×M×G):N (Kr⊕((Int×jZ×G)⊕jZ)):=
 bif d.2.2.1 then
  some (.inl (d.1,(i64.wrap (d.2.1+1)),d.2.2.2.1,d.2.2.2.2.1,d.2.2.2.2.2.1,d.2.2.2.2.2.2.1,()))
 else
  match aac (d.1,d.2.1,()) with
  |none=>none
  |some Q=>
   match aa9 (Q.1,()) with
   |none=>none
   |some ah=>
    bif decide (ah.2.1=0) then
     bif decide ((ah.1:M)=d.1) then
      some (.inr (.inl (0,Q.1,())))
     else
      some (.inl (d.1,(i64.wrap (d.2.1+1)),d.2.2.2.1,d.2.2.2.2.1,d.2.2.2.2.2.1,d.2.2.2.2.2.2.1,()))
    else
     some (.inl (d.1,(i64.wrap (d.2.1+1)),d.2.2.2.1,d.2.2.2.2.1,d.2.2.2.2.2.1,d.2.2.2.2.2.2.1,()))
def Xh (d:Kr):N (Kr⊕((Int×jZ×G)⊕jZ)):=
 let t0:=(decide (d.2.1<((d.1.length):Int)))
 bif t0 then
  bif decide (0<=d.2.1)&&decide (d.2.1<(d.1.length:Int)) then
   let t1:Int:=((d.1.getD (d.2.1.toNat) 0).toNat:Int)
   bif (!(decide (t1<1))) then
    bif decide (0<=d.2.1)&&decide (d.2.1<(d.1.length:Int)) then
     let t2:Int:=((d.1.getD (d.2.1.toNat) 0).toNat:Int)
     Vk (d.1,d.2.1,(decide (t2>3)),d.2.2.1,d.2.2.2.1,d.2.2.2.2.1,d.2.2.2.2.2.1,())
    else none
   else
    Vk (d.1,d.2.1,true,d.2.2.1,d.2.2.2.1,d.2.2.2.2.1,d.2.2.2.2.2.1,())
  else none
 else
  some (.inr (.inr (d.2.2.1,d.2.2.2.1,d.2.2.2.2.1,d.2.2.2.2.2.1,())))
def Xj:=b4 Xh
def tq (d:M×G):N (jZ×Int×G):=
 match Xj (d.1,0,[],0,0,[],()) with
 |none=>none
 |some (.inl z0)=>
  some (z0.2.1,z0.1,())
 |some (.inr z0)=>
  some (([],(0,(0,([],())))),12,())
def md (d:M×G):N (Bool×G):=
 match tq (d.1,()) with
 |none=>none
 |some Q=>
  bif decide (Q.2.1=0) then
   some ((decide (Q.1.2.1=1)),())
  else
   some (false,())
def ry (d:kK×Int×G):N tM:=
 let t0:Int:=(if ((i64.wrap (d.1.2.1+d.2.1)):Int)<1000000000000000 then (i64.wrap (d.1.2.1+d.2.1)) else 1000000000000000)
 some ((d.1.1,(t0,())),())
def ts (d:kK×Int×G):N tM:=
 let t0:Int:=(if (0:Int)<(i64.wrap (d.1.1-d.2.1)) then (i64.wrap (d.1.1-d.2.1)) else 0)
 some ((t0,(d.1.2.1,())),())
def JF (d:M×M×Bool×Bool×G):N (Bool×G):=
 bif !d.2.2.1 then
  bif !d.2.2.2.1 then
   match JW (d.1,()) with
   |none=>none
   |some Q=>
    bif Q.1 then
     match JW (d.2.1,()) with
     |none=>none
     |some ah=>
      some (ah.1,())
    else
     some (false,())
  else
   some (true,())
 else
  some (true,())
def JE (d:zR):N (Bool×G):=
 let t0:=(!decide ((d.1:M)=[]))
 bif t0 then
  let t1:=(!decide ((d.2.1:M)=[]))
  bif t1 then
   match Ej (d.1,()) with
   |none=>none
   |some aJ=>
    bif aJ.1 then
     match Ej (d.2.1,()) with
     |none=>none
     |some bR=>
      JF (d.1,d.2.1,d.2.2.1,bR.1,())
    else
     JF (d.1,d.2.1,d.2.2.1,false,())
  else
   JF (d.1,d.2.1,d.2.2.1,false,())
 else
  JF (d.1,d.2.1,d.2.2.1,false,())
def tD (d:aK):N (Bool×G):=
 let t0:=(decide ((((d.1.length):Int):Int)>0))
 bif t0 then
  bif decide ((0:Int)<(d.1.length:Int)) then
   let t1:=(decide ((((d.1.getD 0 0).toNat:Int):Int)=6))
   bif t1 then
    let t2:=(decide ((((d.2.1.length):Int):Int)>0))
    bif t2 then
     bif decide ((0:Int)<(d.2.1.length:Int)) then
      let t3:=(decide ((((d.2.1.getD 0 0).toNat:Int):Int)=6))
      JE (d.1,d.2.1,t3,())
     else none
    else
     JE (d.1,d.2.1,false,())
   else
    JE (d.1,d.2.1,false,())
  else none
 else
  JE (d.1,d.2.1,false,())
def k5 (d:eQ×bB×G):N (eQ×G):=
 bif decide (d.2.1.1=1) then
  match md (d.2.1.2.1,()) with
  |none=>none
  |some Q=>
   bif Q.1 then
    match ry (d.1.1,1,()) with
    |none=>none
    |some ah=>
     some ((ah.1,(d.1.2.1,())),())
   else
    match ts (d.1.2.1,64,()) with
    |none=>none
    |some ah=>
     match ry (ah.1,((d.2.1.2.2.1.length):Int),()) with
     |none=>none
     |some aJ=>
      some ((d.1.1,(aJ.1,())),())
 else
  bif decide (d.2.1.1=2) then
   match md (d.2.1.2.1,()) with
   |none=>none
   |some Q=>
    bif Q.1 then
     match ts (d.1.1,1,()) with
     |none=>none
     |some ah=>
      some ((ah.1,(d.1.2.1,())),())
    else
     match ts (d.1.2.1,64,()) with
     |none=>none
     |some ah=>
      some ((d.1.1,(ah.1,())),())
  else
   bif decide (d.2.1.1=6) then
    some (d.1,())
   else
    bif decide (d.2.1.1=3) then
     some (((0,(d.1.1.2.1,())),((0,(d.1.2.1.2.1,())),())),())
    else
     match tD (d.2.1.2.2.2.2.1,d.2.1.2.2.2.2.2.1,()) with
     |none=>none
     |some Q=>
      bif !Q.1 then
       some (((0,(1000000000000000,())),((0,(1000000000000000,())),())),())
      else
       bif decide (d.2.1.1=5) then
        match ry ((0,(d.1.1.2.1,())),d.1.1.2.1,()) with
        |none=>none
        |some ah=>
         match ry ((0,(d.1.2.1.2.1,())),d.1.2.1.2.1,()) with
         |none=>none
         |some aJ=>
          some ((ah.1,(aJ.1,())),())
       else
        some (((0,(d.1.1.2.1,())),((0,(d.1.2.1.2.1,())),())),())
def yW (d:b5×G):N tM:=
 match tq (d.1.1,()) with
 |none=>none
 |some Q=>
  bif (!decide (Q.2.1=0)) then
   some ((0,(0,())),())
  else
   bif decide (Q.1.2.1=1) then
    some ((1,(0,())),())
   else
    bif decide (Q.1.2.1=2) then
     some ((0,(((d.1.2.1.length):Int),())),())
    else
     bif decide (Q.1.2.1=3) then
      some ((0,(((d.1.2.1.length):Int),())),())
     else
      some ((0,(0,())),())
def s6 (d:aj×Int×Int×Int×Int×Int×G):N ((aj×Int×Int×Int×Int×Int×G)⊕((Int×Int×Int×Int×G)⊕G)):=
 let t0:=(decide (d.2.1<((d.1.length):Int)))
 bif t0 then
  bif decide (0<=d.2.1)&&decide (d.2.1<(d.1.length:Int)) then
   let t1:=(d.1.getD (d.2.1.toNat) ([],([],(0,()))))
   match yW (t1,()) with
   |none=>none
   |some aJ=>
    let t3:=i64.wrap (d.2.2.2.2.1+aJ.1.1)
    let t4:=i64.wrap (d.2.2.2.2.2.1+aJ.1.2.1)
    some (.inl (d.1,(i64.wrap (d.2.1+1)),d.2.2.1,d.2.2.2.1,t3,t4,()))
  else none
 else
  some (.inr (.inl (d.2.2.1,d.2.2.2.1,d.2.2.2.2.1,d.2.2.2.2.2.1,())))
def JC:=b4 s6
def zb (d:aj×G):N tM:=
 match JC (d.1,0,0,0,0,0,()) with
 |none=>none
 |some (.inl z0)=>
  some ((z0.2.2.1,(z0.2.2.2.1,())),())
 |some (.inr z0)=>
  none
def Fa (d:tM):N (eQ×G):=
 some (((d.1.1,(d.1.1,())),((d.1.2.1,(d.1.2.1,())),())),())
def tg (d:ET):N (ET⊕((cZ×Int×Int×Int×Int×eQ×G)⊕G)):=
 let t0:=(decide (d.1<((d.2.1.2.2.2.1.length):Int)))
 bif t0 then
  bif decide (0<=d.1)&&decide (d.1<(d.2.1.2.2.2.1.length:Int)) then
   let t1:=(d.2.1.2.2.2.1.getD (d.1.toNat) ((0,(0,())),((0,(0,())),())))
   match Ak (d.2.2.2.2.2.2.1,t1,()) with
   |none=>none
   |some aJ=>
    some (.inl ((i64.wrap (d.1+1)),d.2.1,d.2.2.1,d.2.2.2.1,d.2.2.2.2.1,d.2.2.2.2.2.1,aJ.1,()))
  else none
 else
  some (.inr (.inl (d.2.1,d.2.2.1,d.2.2.2.1,d.2.2.2.2.1,d.2.2.2.2.2.1,d.2.2.2.2.2.2.1,())))
def JZ:=b4 tg
def th (d:ET):N (ET⊕((Int×Int×Int×Int×eQ×G)⊕G)):=
 let t0:=(decide (d.1<((d.2.1.2.2.2.2.1.length):Int)))
 bif t0 then
  bif decide (0<=d.1)&&decide (d.1<(d.2.1.2.2.2.2.1.length:Int)) then
   let t1:=(d.2.1.2.2.2.2.1.getD (d.1.toNat) (0,([],([],(([],([],())),([],([],(0,()))))))))
   match k5 (d.2.2.2.2.2.2.1,t1,()) with
   |none=>none
   |some aJ=>
    some (.inl ((i64.wrap (d.1+1)),d.2.1,d.2.2.1,d.2.2.2.1,d.2.2.2.2.1,d.2.2.2.2.2.1,aJ.1,()))
  else none
 else
  some (.inr (.inl (d.2.2.1,d.2.2.2.1,d.2.2.2.2.1,d.2.2.2.2.2.1,d.2.2.2.2.2.2.1,())))
def J0:=b4 th
def m4 (d:cZ×G):N (eQ×G):=
 let t0:=(decide ((((d.1.2.2.1.length):Int):Int)=0))
 bif t0 then
  match zb (d.1.1,()) with
  |none=>none
  |some ah=>
   match Fa (ah.1,()) with
   |none=>none
   |some aJ=>
    some (aJ.1,())
 else
  match JZ (0,d.1,0,0,0,0,((0,(0,())),((0,(0,())),())),()) with
  |none=>none
  |some (.inl aG)=>
   match J0 (0,aG.1,aG.2.1,aG.2.2.1,aG.2.2.2.1,aG.2.2.2.2.1,aG.2.2.2.2.2.1,()) with
   |none=>none
   |some (.inl z2)=>
    some (z2.2.2.2.2.1,())
   |some (.inr z2)=>
    none
  |some (.inr aG)=>
   none
def JS (d:Int×cN×G):N (Bool×cN×G):=
 bif decide (d.1>=0) then
  let t0:=(decide (d.1<((d.2.1.length):Int)))
  bif t0 then
   bif decide (0<=d.1)&&decide (d.1<(d.2.1.length:Int)) then
    let t1:=(d.2.1.getD (d.1.toNat) (false,(false,(0,(([],([],([],([],([],()))))),())))))
    some (t1.1,d.2.1,())
   else none
  else
   some (false,d.2.1,())
 else
  some (false,d.2.1,())
def DI (d:dR×cN×cN×G):N ((dR×cN×cN×G)⊕((cN×cN×G)⊕G)):=
 let t0:=(decide ((((d.1.length):Int):Int)>0))
 bif t0 then
  bif decide ((0:Int)<(d.1.length:Int)) then
   bif (decide ((1:Int)<=(d.1.length:Int))&&decide (((d.1.length:Int):Int)<=(d.1.length:Int))) then
    let t1:=(List.drop (Int.toNat 1) (List.take (Int.toNat (d.1.length:Int)) d.1))
    match JS ((d.1.getD 0 0),d.2.2.1,()) with
    |none=>none
    |some aJ=>
     bif !aJ.1 then
      some (.inl (t1,d.2.1,aJ.2.1,()))
     else
      bif (decide (0<=(d.1.getD 0 0))&&decide (((d.1.getD 0 0):Int)<(aJ.2.1.length:Int))) then
       let t3:=(aJ.2.1.getD (Int.toNat (d.1.getD 0 0)) (false,(false,(0,(([],([],([],([],([],()))))),())))))
       let t4:=i64.wrap (t3.2.2.1-1)
       bif (decide (0<=(d.1.getD 0 0))&&decide (((d.1.getD 0 0):Int)<(aJ.2.1.length:Int))) then
        let t5:=(List.set aJ.2.1 (Int.toNat (d.1.getD 0 0)) ((aJ.2.1.getD (Int.toNat (d.1.getD 0 0)) (false,(false,(0,(([],([],([],([],([],()))))),()))))).1,((aJ.2.1.getD (Int.toNat (d.1.getD 0 0)) (false,(false,(0,(([],([],([],([],([],()))))),()))))).2.1,(t4,(aJ.2.1.getD (Int.toNat (d.1.getD 0 0)) (false,(false,(0,(([],([],([],([],([],()))))),()))))).2.2.2))))
        bif (decide (0<=(d.1.getD 0 0))&&decide (((d.1.getD 0 0):Int)<(t5.length:Int))) then
         let t6:=(t5.getD (Int.toNat (d.1.getD 0 0)) (false,(false,(0,(([],([],([],([],([],()))))),())))))
         bif decide (t6.2.2.1=0) then
          bif (decide ((List.length ([]:dR)+t1.length)*8<=bp)) then
           bif (decide (0<=(d.1.getD 0 0))&&decide (((d.1.getD 0 0):Int)<(t5.length:Int))) then
            let t7:=(t5.getD (Int.toNat (d.1.getD 0 0)) (false,(false,(0,(([],([],([],([],([],()))))),())))))
            bif (decide ((List.length ([]++t1)+t7.2.2.2.1.2.2.1.length)*8<=bp)) then
             let t8:dR:=(([]++t1)++t7.2.2.2.1.2.2.1)
             bif (decide (0<=(d.1.getD 0 0))&&decide (((d.1.getD 0 0):Int)<(t5.length:Int))) then
              let t9:=(List.set t5 (Int.toNat (d.1.getD 0 0)) (false,(false,(0,(([],([],([],([],([],()))))),())))))
              some (.inl (t8,d.2.1,t9,()))
             else none
            else none
           else none
          else none
         else
          some (.inl (t1,d.2.1,t5,()))
        else none
       else none
      else none
   else none
  else none
 else
  some (.inr (.inl (d.2.1,d.2.2.1,())))
def L9:=b4 DI
def zp (d:fi):N fi:=
 match wi (d.1,d.2.1,()) with
 |none=>none
 |some Q=>
  bif !Q.1 then
   some (d.1,110,())
  else
   match DU (d.1,()) with
   |none=>none
   |some ah=>
    match L9 (([d.2.1]:dR),[],ah.1,()) with
    |none=>none
    |some (.inl z2)=>
     some ((z2.2.1,()),0,())
    |some (.inr z2)=>
     none
def rM (d:fi):N (Bool×G):=
 bif decide (d.2.1>=0) then
  let t0:=(decide (d.2.1<((d.1.1.length):Int)))
  bif t0 then
   bif decide (0<=d.2.1)&&decide (d.2.1<(d.1.1.length:Int)) then
    let t1:=(d.1.1.getD (d.2.1.toNat) (false,(false,(0,(([],([],([],([],([],()))))),())))))
    some (t1.1,())
   else none
  else
   some (false,())
 else
  some (false,())
def kr (d:fi):N (cZ×Int×G):=
 match rM (d.1,d.2.1,()) with
 |none=>none
 |some Q=>
  bif !Q.1 then
   some (([],([],([],([],([],()))))),110,())
  else
   bif decide (0<=d.2.1)&&decide (d.2.1<(d.1.1.length:Int)) then
    let t1:=(d.1.1.getD (d.2.1.toNat) (false,(false,(0,(([],([],([],([],([],()))))),())))))
    bif t1.2.1 then
     some (([],([],([],([],([],()))))),112,())
    else
     bif decide (0<=d.2.1)&&decide (d.2.1<(d.1.1.length:Int)) then
      let t2:=(d.1.1.getD (d.2.1.toNat) (false,(false,(0,(([],([],([],([],([],()))))),())))))
      some (t2.2.2.2.1,0,())
     else none
   else none
def i7 (d:M×G):N (Bool×G):=
 some ((!decide ((d.1:M)=d.1)),())
def CX (d:aK):N (Int×G):=
 match i7 (d.1,()) with
 |none=>none
 |some Q=>
  match i7 (d.2.1,()) with
  |none=>none
  |some ah=>
   bif Q.1 then
    bif ah.1 then
     some (0,())
    else
     some ((-1:Int),())
   else
    bif ah.1 then
     some (1,())
    else
     bif (Op.bytesLess d.1 d.2.1) then
      some ((-1:Int),())
     else
      let t2:=(!(Op.bytesLess d.1 d.2.1||decide ((d.1:M)=d.2.1)))
      bif t2 then
       some (1,())
      else
       some (0,())
def pZ (d:aK):N (Int×G):=
 bif decide ((d.1:M)=d.2.1) then
  some (0,())
 else
  let t0:=decide ((d.1:M)=[])
  bif t0 then
   some (1,())
  else
   let t1:=decide ((d.2.1:M)=[])
   bif t1 then
    some ((-1:Int),())
   else
    match CX (d.1,d.2.1,()) with
    |none=>none
    |some aJ=>
     some (aJ.1,())
def xB (d:bc×M×Int×G):N ((bc×M×Int×G)⊕((M×G)⊕G)):=
 let t0:=(decide (d.2.2.1<((d.1.length):Int)))
 bif t0 then
  bif decide (0<=d.2.2.1)&&decide (d.2.2.1<(d.1.length:Int)) then
   let t1:=(d.1.getD (d.2.2.1.toNat) [])
   match pZ (t1,d.2.1,()) with
   |none=>none
   |some aJ=>
    bif decide (aJ.1<0) then
     bif decide (0<=d.2.2.1)&&decide (d.2.2.1<(d.1.length:Int)) then
      let t3:=(d.1.getD (d.2.2.1.toNat) [])
      some (.inl (d.1,t3,(i64.wrap (d.2.2.1+1)),()))
     else none
    else
     some (.inl (d.1,d.2.1,(i64.wrap (d.2.2.1+1)),()))
  else none
 else
  some (.inr (.inl (d.2.1,())))
def ip:=b4 xB
def R1 (d:bc×G):N (M×G):=
 let t0:=(decide ((((d.1.length):Int):Int)<1))
 bif t0 then
  none
 else
  bif decide ((0:Int)<(d.1.length:Int)) then
   match ip (d.1,(d.1.getD 0 []),1,()) with
   |none=>none
   |some (.inl aG)=>
    some (aG.1,())
   |some (.inr aG)=>
    none
  else none
def FE (d:bc×G):N (M×G):=
 match R1 (d.1,()) with
 |none=>none
 |some Q=>
  some (Q.1,())
def k8 (d:aK×G):N (Bool×G):=
 let t0:=(!decide ((d.1.2.1:M)=[]))
 bif t0 then
  let t1:=(Op.bytesLess d.1.2.1 d.1.1||decide ((d.1.2.1:M)=d.1.1))
  some (t1,())
 else
  some (false,())
def tS (d:uq):N (aK×G):=
 let t0:M:=(bif !(Op.bytesLess d.1.1 d.2.1.1) then d.1.1 else d.2.1.1)
 match FE (([d.1.2.1,d.2.1.2.1]:bc),()) with
 |none=>none
 |some ah=>
  match k8 ((t0,(ah.1,())),()) with
  |none=>none
  |some aJ=>
   bif aJ.1 then
    some ((([97]:M),(([97]:M),())),())
   else
    some ((t0,(ah.1,())),())
def YJ (d:TW):N (TW⊕((M×aK×aq×G)⊕G)):=
 bif decide (d.2.2.2.1<d.2.2.1) then
  bif decide (0<=d.2.2.2.1)&&decide (d.2.2.2.1<(d.2.1.length:Int)) then
   let t0:=(d.2.1.getD (d.2.2.2.1.toNat) [])
   match tS (d.2.2.2.2.1,(d.1,(t0,())),()) with
   |none=>none
   |some ah=>
    bif (decide ((d.2.2.2.2.2.1.length+List.length ([ah.1]:aq))*32<=bp)) then
     let t2:aq:=(d.2.2.2.2.2.1++([ah.1]:aq))
     let t3:=i64.wrap (d.2.2.2.1+1)
     some (.inl (t0,d.2.1,d.2.2.1,t3,d.2.2.2.2.1,t2,()))
    else none
  else none
 else
  some (.inr (.inl (d.1,d.2.2.2.2.1,d.2.2.2.2.2.1,())))
def YL:=b4 YJ
def rO (d:aK×bc×G):N (aq×G):=
 match YL ([],d.2.1,((d.2.1.length):Int),0,d.1,[],()) with
 |none=>none
 |some (.inl z0)=>
  match tS (z0.2.1,(z0.1,([],())),()) with
  |none=>none
  |some ah=>
   bif (decide ((z0.2.2.1.length+List.length ([ah.1]:aq))*32<=bp)) then
    let t2:aq:=(z0.2.2.1++([ah.1]:aq))
    some (t2,())
   else none
 |some (.inr z0)=>
  none
def Ac (d:zP):N (aq×G):=
 let t0:=(decide ((((d.1.2.2.1.length):Int):Int)=0))
 bif t0 then
  some ([],())
 else
  match rO (d.2.1,d.1.2.1,()) with
  |none=>none
  |some ah=>
   some (ah.1,())
def qt (d:M×G):N (aK×G):=
 bif decide (d.1.length+List.length ([0]:M)<=bp) then
  some ((d.1,((d.1++([0]:M)),())),())
 else none
def K6 (d:bB×G):N (aq×G):=
 match qt (d.1.2.1,()) with
 |none=>none
 |some Q=>
  some (([Q.1]:aq),())
def K0 (d:bB×G):N (aq×G):=
 match qt (d.1.2.1,()) with
 |none=>none
 |some Q=>
  some (([Q.1]:aq),())
def Tp (d:bB×G):N (aq×G):=
 some (([d.1.2.2.2.1]:aq),())
def Vm (d:M×Bool×M×M×dR×G):N (zT⊕(zT⊕G)):=
 bif d.2.1 then
  let t0:=(i64.wrap (((d.2.2.2.2.1.length):Int)-1))
  bif decide ((0:Int)<=t0)&&decide (t0<=(d.2.2.2.2.1.length:Int)) then
   some (.inl (d.1,d.2.2.1,d.2.2.2.1,(List.take (t0.toNat) d.2.2.2.2.1),()))
  else none
 else
  some (.inr (.inl (d.1,d.2.2.1,d.2.2.2.1,d.2.2.2.2.1,())))
def XZ (d:zT):N (zT⊕(zT⊕G)):=
 let t0:=(decide ((((d.2.2.2.1.length):Int):Int)>0))
 bif t0 then
  let t1:=(i64.wrap (((d.2.2.2.1.length):Int)-1))
  bif decide (0<=t1)&&decide (t1<(d.2.2.2.1.length:Int)) then
   let t2:=(d.2.2.2.1.getD (t1.toNat) 0)
   Vm (d.1,(decide (t2=255)),d.2.1,d.2.2.1,d.2.2.2.1,())
  else none
 else
  Vm (d.1,false,d.2.1,d.2.2.1,d.2.2.2.1,())
def X1:=b4 XZ
def mr (d:M×G):N (aK×G):=
 bif decide (d.1.length<=bp) then
  match X1 (d.1,[],[],(j7 d.1),()) with
  |none=>none
  |some (.inl z0)=>
   let t1:=(decide ((((z0.2.2.2.1.length):Int):Int)>0))
   bif t1 then
    let t2:=(i64.wrap (((z0.2.2.2.1.length):Int)-1))
    bif decide (0<=t2)&&decide (t2<(z0.2.2.2.1.length:Int)) then
     let t3:=(z0.2.2.2.1.getD (t2.toNat) 0)
     bif decide (0<=t2)&&decide (t2<(z0.2.2.2.1.length:Int)) then
      let t4:=(List.set z0.2.2.2.1 (t2.toNat) (IntKind.u8.wrap (t3+1)))
      some ((z0.1,((tZ t4),())),())
     else none
    else none
   else
    some ((z0.1,((tZ z0.2.2.2.1),())),())
  |some (.inr z0)=>
   none
 else none
def Tq (d:bB×G):N (aq×G):=
 match mr (d.1.2.2.2.2.1,()) with
 |none=>none
 |some Q=>
  match mr (d.1.2.2.2.2.2.1,()) with
  |none=>none
  |some ah=>
   some (([Q.1,ah.1]:aq),())
def S7 (d:bB×G):N (aq×G):=
 match mr (d.1.2.2.2.2.2.1,()) with
 |none=>none
 |some Q=>
  some (([Q.1]:aq),())
def S8 (d:bB×G):N (aq×G):=
 some (([d.1.2.2.2.1]:aq),())
def qi (d:bB×G):N (aq×G):=
 bif decide (d.1.1=1) then
  match K6 (d.1,()) with
  |none=>none
  |some Q=>
   some (Q.1,())
 else
  bif decide (d.1.1=2) then
   match K0 (d.1,()) with
   |none=>none
   |some Q=>
    some (Q.1,())
  else
   bif decide (d.1.1=3) then
    match Tp (d.1,()) with
    |none=>none
    |some Q=>
     some (Q.1,())
   else
    bif decide (d.1.1=4) then
     match Tq (d.1,()) with
     |none=>none
     |some Q=>
      some (Q.1,())
    else
     bif decide (d.1.1=5) then
      match S7 (d.1,()) with
      |none=>none
      |some Q=>
       some (Q.1,())
     else
      bif decide (d.1.1=6) then
       match S8 (d.1,()) with
       |none=>none
       |some Q=>
        some (Q.1,())
      else
       some ([],())
def tT (d:cZ×G):N (Bool×G):=
 let t0:=(decide ((((d.1.2.2.1.length):Int):Int)=0))
 some (t0,())
def R6 (d:aK):N (Int×G):=some ((fun a b=>Lib.compareBytes a b) d.1 d.2.1,())
def Ty (d:aK):N (Int×G):=
 match R6 (d.1,d.2.1,()) with
 |none=>none
 |some Q=>
  some (Q.1,())
def ul (d:b5×M×G):N (Int×G):=
 match Ty (d.1.1,d.2.1,()) with
 |none=>none
 |some Q=>
  some (Q.1,())
def GW (d:aj×M×Int×Int×Int×G):N ((aj×M×Int×Int×Int×G)⊕((aj×M×Int×Int×G)⊕G)):=
 let t0:=decide (d.2.2.2.1<d.2.2.2.2.1)
 bif t0 then
  let t1:=i64.wrap (d.2.2.2.1+d.2.2.2.2.1)
  let t2:Int:=(Int.fdiv (IntKind.u64.wrap t1) (2^(min (Int.toNat 1) IntKind.u64.bits)))
  bif (decide (0<=(i64.wrap t2))&&decide (((i64.wrap t2):Int)<(d.1.length:Int))) then
   let t3:=(d.1.getD (Int.toNat (i64.wrap t2)) ([],([],(0,()))))
   match ul (t3,d.2.1,()) with
   |none=>none
   |some cB=>
    bif decide (cB.1<0) then
     let t5:=i64.wrap ((i64.wrap t2)+1)
     some (.inl (d.1,d.2.1,d.2.2.1,t5,d.2.2.2.2.1,()))
    else
     some (.inl (d.1,d.2.1,d.2.2.1,d.2.2.2.1,(i64.wrap t2),()))
  else none
 else
  some (.inr (.inl (d.1,d.2.1,d.2.2.1,d.2.2.2.1,())))
def Pu:=b4 GW
def GX (d:EL):N EW:=
 match Pu (d.1,d.2.1,((d.1.length):Int),0,((d.1.length):Int),()) with
 |none=>none
 |some (.inl z0)=>
  bif decide (z0.2.2.2.1<z0.2.2.1) then
   bif decide (0<=z0.2.2.2.1)&&decide (z0.2.2.2.1<(z0.1.length:Int)) then
    let t1:=(z0.1.getD (z0.2.2.2.1.toNat) ([],([],(0,()))))
    match ul (t1,z0.2.1,()) with
    |none=>none
    |some aJ=>
     some (z0.2.2.2.1,(decide (aJ.1=0)),())
   else none
  else
   some (z0.2.2.2.1,false,())
 |some (.inr z0)=>
  none
def wb (d:EL):N EW:=
 match GX (d.1,d.2.1,()) with
 |none=>none
 |some Q=>
  some (Q.1,Q.2.1,())
def Fu (d:EL):N (b5×Bool×G):=
 match wb (d.1,d.2.1,()) with
 |none=>none
 |some Q=>
  bif Q.2.1 then
   bif decide (0<=Q.1)&&decide (Q.1<(d.1.length:Int)) then
    let t1:=(d.1.getD (Q.1.toNat) ([],([],(0,()))))
    some (t1,true,())
   else none
  else
   some (([],([],(0,()))),false,())
def BS (d:cG×G):N (cG×G):=
 some (d.1,())
def pC (d:KI):N (Bool×G):=
 bif (!(Op.bytesLess d.2.1 d.1.1)) then
  let t0:=decide ((d.1.2.1:M)=[])
  bif !t0 then
   some ((Op.bytesLess d.2.1 d.1.2.1),())
  else
   some (true,())
 else
  some (false,())
def zd (d:Int×Bool×Bool×M×M×Int×M×Bool×Int×G):N (Bool×Bool×M×M×Int×M×Bool×Int×G):=
 bif !d.2.2.2.2.2.2.2.1 then
  some (d.2.1,d.2.2.1,d.2.2.2.1,d.2.2.2.2.1,d.2.2.2.2.2.1,d.2.2.2.2.2.2.1,true,d.1,())
 else
  some (d.2.1,d.2.2.1,d.2.2.2.1,d.2.2.2.2.1,d.2.2.2.2.2.1,d.2.2.2.2.2.2.1,d.2.2.2.2.2.2.2.1,d.2.2.2.2.2.2.2.2.1,())
def DN (d:wK):N (Bool×Bool×Bool×M×M×Int×M×Bool×Int×G):=
 match pC (d.1.2.2.2.1,d.2.2.2.2.2.2.1,()) with
 |none=>none
 |some Q=>
  bif Q.1 then
   match zd (d.1.2.2.2.2.2.2.1,d.2.1,d.2.2.1,d.2.2.2.1,d.2.2.2.2.1,d.2.2.2.2.2.1,d.2.2.2.2.2.2.1,d.2.2.2.2.2.2.2.1,d.2.2.2.2.2.2.2.2.1,()) with
   |none=>none
   |some ah=>
    some (false,ah.1,ah.2.1,ah.2.2.1,ah.2.2.2.1,ah.2.2.2.2.1,ah.2.2.2.2.2.1,ah.2.2.2.2.2.2.1,ah.2.2.2.2.2.2.2.1,())
  else
   some (false,d.2.1,d.2.2.1,d.2.2.2.1,d.2.2.2.2.1,d.2.2.2.2.2.1,d.2.2.2.2.2.2.1,d.2.2.2.2.2.2.2.1,d.2.2.2.2.2.2.2.2.1,())
def bv (d:aK):N (Bool×G):=
 let t0:=(decide ((((d.1.length):Int):Int)>=((d.2.1.length):Int)))
 bif t0 then
  bif (decide ((0:Int)<=((d.2.1.length):Int))&&decide ((((d.2.1.length):Int):Int)<=(d.1.length:Int))) then
   let t1:=(List.drop 0 (List.take (Int.toNat ((d.2.1.length):Int)) d.1))
   some ((decide ((t1:M)=d.2.1)),())
  else none
 else
  some (false,())
def R7 (d:aK):N wM:=
 match bv (d.1,d.2.1,()) with
 |none=>none
 |some Q=>
  bif !Q.1 then
   some (d.1,false,())
  else
   bif (decide (0<=((d.2.1.length):Int))&&decide ((((d.2.1.length):Int):Int)<=(d.1.length:Int))&&decide (((d.1.length:Int):Int)<=(d.1.length:Int))) then
    let t1:=(List.drop (Int.toNat ((d.2.1.length):Int)) (List.take (Int.toNat (d.1.length:Int)) d.1))
    some (t1,true,())
   else none
def I3 (d:aK):N wM:=
 match R7 (d.1,d.2.1,()) with
 |none=>none
 |some Q=>
  some (Q.1,Q.2.1,())
def tF (d:M×M×M×G):N wM:=
 match I3 (d.1,d.2.1,()) with
 |none=>none
 |some Q=>
  bif !Q.2.1 then
   some ([],false,())
  else
   bif decide (d.2.2.1.length+Q.1.length<=bp) then
    some ((d.2.2.1++Q.1),true,())
   else none
def tJ (d:wK):N (Bool×Bool×Bool×M×M×Int×M×Bool×Int×G):=
 match tF (d.2.2.2.2.2.2.1,d.1.2.2.2.2.2.1,d.1.2.2.2.2.1,()) with
 |none=>none
 |some Q=>
  bif Q.2.1 then
   some (false,d.2.1,d.2.2.1,d.2.2.2.1,d.2.2.2.2.1,d.2.2.2.2.2.1,Q.1,d.2.2.2.2.2.2.2.1,d.2.2.2.2.2.2.2.2.1,())
  else
   some (false,d.2.1,d.2.2.1,d.2.2.2.1,d.2.2.2.2.1,d.2.2.2.2.2.1,d.2.2.2.2.2.2.1,d.2.2.2.2.2.2.2.1,d.2.2.2.2.2.2.2.2.1,())
def vy (d:aK):N (Bool×G):=
 match bv (d.1,d.2.1,()) with
 |none=>none
 |some Q=>
  some (Q.1,())
def un (d:wK):N (Bool×Bool×Bool×M×M×Int×M×Bool×Int×G):=
 match vy (d.2.2.2.2.2.2.1,d.1.2.2.2.2.1,()) with
 |none=>none
 |some Q=>
  bif !Q.1 then
   match tJ (d.1,d.2.1,d.2.2.1,d.2.2.2.1,d.2.2.2.2.1,d.2.2.2.2.2.1,d.2.2.2.2.2.2.1,d.2.2.2.2.2.2.2.1,d.2.2.2.2.2.2.2.2.1,()) with
   |none=>none
   |some ah=>
    some (ah.1,ah.2.1,ah.2.2.1,ah.2.2.2.1,ah.2.2.2.2.1,ah.2.2.2.2.2.1,ah.2.2.2.2.2.2.1,ah.2.2.2.2.2.2.2.1,ah.2.2.2.2.2.2.2.2.1,())
  else
   some (true,d.2.1,d.2.2.1,d.2.2.2.1,d.2.2.2.2.1,d.2.2.2.2.2.1,d.2.2.2.2.2.2.1,d.2.2.2.2.2.2.2.1,d.2.2.2.2.2.2.2.2.1,())
def DM (d:wK):N (Bool×Bool×Bool×M×M×Int×M×Bool×Int×G):=
 match pC (d.1.2.2.2.1,d.2.2.2.2.2.2.1,()) with
 |none=>none
 |some Q=>
  some (Q.1,d.2.1,d.2.2.1,d.2.2.2.1,d.2.2.2.2.1,d.2.2.2.2.2.1,d.2.2.2.2.2.2.1,d.2.2.2.2.2.2.2.1,d.2.2.2.2.2.2.2.2.1,())
def yS (d:wK):N (Bool×Bool×Bool×M×M×Int×M×Bool×Int×G):=
 let t0:=decide ((d.1.2.1:M)=d.2.2.2.2.2.2.1)
 some (t0,d.2.1,d.2.2.1,d.2.2.2.1,d.2.2.2.2.1,d.2.2.2.2.2.1,d.2.2.2.2.2.2.1,d.2.2.2.2.2.2.2.1,d.2.2.2.2.2.2.2.2.1,())
def yR (d:wK):N (Bool×Bool×Bool×M×M×Int×M×Bool×Int×G):=
 let t0:=(!decide ((d.1.2.1:M)=d.2.2.2.2.2.2.1))
 bif t0 then
  some (false,d.2.1,d.2.2.1,d.2.2.2.1,d.2.2.2.2.1,d.2.2.2.2.2.1,d.2.2.2.2.2.2.1,d.2.2.2.2.2.2.2.1,d.2.2.2.2.2.2.2.2.1,())
 else
  match zd (d.1.2.2.2.2.2.2.1,d.2.1,d.2.2.1,d.2.2.2.1,d.2.2.2.2.1,d.2.2.2.2.2.1,d.2.2.2.2.2.2.1,d.2.2.2.2.2.2.2.1,d.2.2.2.2.2.2.2.2.1,()) with
  |none=>none
  |some ah=>
   some (true,ah.1,true,ah.2.2.1,d.1.2.2.1,ah.2.2.2.2.2.2.2.1,ah.2.2.2.2.2.1,ah.2.2.2.2.2.2.1,ah.2.2.2.2.2.2.2.1,())
def pY (d:Ks):N Ks:=
 bif d.1 then
  bif decide (d.2.1= -1) then
   some (true,0,d.2.2.1,d.2.2.2.1,d.2.2.2.2.1,d.2.2.2.2.2.1,d.2.2.2.2.2.2.1,d.2.2.2.2.2.2.2.1,d.2.2.2.2.2.2.2.2.1,d.2.2.2.2.2.2.2.2.2.1,d.2.2.2.2.2.2.2.2.2.2.1,d.2.2.2.2.2.2.2.2.2.2.2.1,d.2.2.2.2.2.2.2.2.2.2.2.2.1,d.2.2.2.2.2.2.2.2.2.2.2.2.2.1,d.2.2.2.2.2.2.2.2.2.2.2.2.2.2.1,d.2.2.2.2.2.2.2.2.2.2.2.2.2.2.2.1,d.2.2.2.2.2.2.2.2.2.2.2.2.2.2.2.2.1,d.2.2.2.2.2.2.2.2.2.2.2.2.2.2.2.2.2.1,())
  else none
 else
  bif d.2.2.2.1 then
   bif decide (d.2.1= -1) then
    some (false,1,d.2.2.1,d.2.2.2.1,d.2.2.2.2.1,d.2.2.2.2.2.1,d.2.2.2.2.2.2.1,d.2.2.2.2.2.2.2.1,d.2.2.2.2.2.2.2.2.1,d.2.2.2.2.2.2.2.2.2.1,true,true,d.2.2.2.2.1,d.2.2.2.2.2.1,d.2.2.2.2.2.2.1,[],false,0,())
   else none
  else
   bif decide (d.2.1= -1) then
    some (false,1,d.2.2.1,d.2.2.2.1,d.2.2.2.2.1,d.2.2.2.2.2.1,d.2.2.2.2.2.2.1,d.2.2.2.2.2.2.2.1,d.2.2.2.2.2.2.2.2.1,d.2.2.2.2.2.2.2.2.2.1,true,false,[],[],0,[],false,0,())
   else none
def o6 (d:Int×bB×Int×Bool×Bool×M×M×Int×M×Bool×Int×Bool×Bool×M×M×Int×M×Bool×Int×G):N Ks:=
 bif decide (d.2.2.1=0) then
  bif decide (d.2.2.1=0) then
   bif decide (0<=d.2.1.1)&&decide (d.2.1.1<7) then
    bif (Nat.beq (d.2.1.1.toNat) 6) then
     match DN (d.2.1,d.2.2.2.1,d.2.2.2.2.1,d.2.2.2.2.2.1,d.2.2.2.2.2.2.1,d.2.2.2.2.2.2.2.1,d.2.2.2.2.2.2.2.2.1,d.2.2.2.2.2.2.2.2.2.1,d.2.2.2.2.2.2.2.2.2.2.1,()) with
     |none=>none
     |some Q=>
      pY ((!Q.1),(-1:Int),Q.2.1,Q.2.2.1,Q.2.2.2.1,Q.2.2.2.2.1,Q.2.2.2.2.2.1,Q.2.2.2.2.2.2.1,Q.2.2.2.2.2.2.2.1,Q.2.2.2.2.2.2.2.2.1,d.2.2.2.2.2.2.2.2.2.2.2.1,d.2.2.2.2.2.2.2.2.2.2.2.2.1,d.2.2.2.2.2.2.2.2.2.2.2.2.2.1,d.2.2.2.2.2.2.2.2.2.2.2.2.2.2.1,d.2.2.2.2.2.2.2.2.2.2.2.2.2.2.2.1,d.2.2.2.2.2.2.2.2.2.2.2.2.2.2.2.2.1,d.2.2.2.2.2.2.2.2.2.2.2.2.2.2.2.2.2.1,d.2.2.2.2.2.2.2.2.2.2.2.2.2.2.2.2.2.2.1,())
    else
     bif (Nat.beq (d.2.1.1.toNat) 5) then
      match tJ (d.2.1,d.2.2.2.1,d.2.2.2.2.1,d.2.2.2.2.2.1,d.2.2.2.2.2.2.1,d.2.2.2.2.2.2.2.1,d.2.2.2.2.2.2.2.2.1,d.2.2.2.2.2.2.2.2.2.1,d.2.2.2.2.2.2.2.2.2.2.1,()) with
      |none=>none
      |some Q=>
       pY ((!Q.1),(-1:Int),Q.2.1,Q.2.2.1,Q.2.2.2.1,Q.2.2.2.2.1,Q.2.2.2.2.2.1,Q.2.2.2.2.2.2.1,Q.2.2.2.2.2.2.2.1,Q.2.2.2.2.2.2.2.2.1,d.2.2.2.2.2.2.2.2.2.2.2.1,d.2.2.2.2.2.2.2.2.2.2.2.2.1,d.2.2.2.2.2.2.2.2.2.2.2.2.2.1,d.2.2.2.2.2.2.2.2.2.2.2.2.2.2.1,d.2.2.2.2.2.2.2.2.2.2.2.2.2.2.2.1,d.2.2.2.2.2.2.2.2.2.2.2.2.2.2.2.2.1,d.2.2.2.2.2.2.2.2.2.2.2.2.2.2.2.2.2.1,d.2.2.2.2.2.2.2.2.2.2.2.2.2.2.2.2.2.2.1,())
     else
      bif (Nat.beq (d.2.1.1.toNat) 4) then
       match un (d.2.1,d.2.2.2.1,d.2.2.2.2.1,d.2.2.2.2.2.1,d.2.2.2.2.2.2.1,d.2.2.2.2.2.2.2.1,d.2.2.2.2.2.2.2.2.1,d.2.2.2.2.2.2.2.2.2.1,d.2.2.2.2.2.2.2.2.2.2.1,()) with
       |none=>none
       |some Q=>
        pY ((!Q.1),(-1:Int),Q.2.1,Q.2.2.1,Q.2.2.2.1,Q.2.2.2.2.1,Q.2.2.2.2.2.1,Q.2.2.2.2.2.2.1,Q.2.2.2.2.2.2.2.1,Q.2.2.2.2.2.2.2.2.1,d.2.2.2.2.2.2.2.2.2.2.2.1,d.2.2.2.2.2.2.2.2.2.2.2.2.1,d.2.2.2.2.2.2.2.2.2.2.2.2.2.1,d.2.2.2.2.2.2.2.2.2.2.2.2.2.2.1,d.2.2.2.2.2.2.2.2.2.2.2.2.2.2.2.1,d.2.2.2.2.2.2.2.2.2.2.2.2.2.2.2.2.1,d.2.2.2.2.2.2.2.2.2.2.2.2.2.2.2.2.2.1,d.2.2.2.2.2.2.2.2.2.2.2.2.2.2.2.2.2.2.1,())
      else
       bif (Nat.beq (d.2.1.1.toNat) 3) then
        match DM (d.2.1,d.2.2.2.1,d.2.2.2.2.1,d.2.2.2.2.2.1,d.2.2.2.2.2.2.1,d.2.2.2.2.2.2.2.1,d.2.2.2.2.2.2.2.2.1,d.2.2.2.2.2.2.2.2.2.1,d.2.2.2.2.2.2.2.2.2.2.1,()) with
        |none=>none
        |some Q=>
         pY ((!Q.1),(-1:Int),Q.2.1,Q.2.2.1,Q.2.2.2.1,Q.2.2.2.2.1,Q.2.2.2.2.2.1,Q.2.2.2.2.2.2.1,Q.2.2.2.2.2.2.2.1,Q.2.2.2.2.2.2.2.2.1,d.2.2.2.2.2.2.2.2.2.2.2.1,d.2.2.2.2.2.2.2.2.2.2.2.2.1,d.2.2.2.2.2.2.2.2.2.2.2.2.2.1,d.2.2.2.2.2.2.2.2.2.2.2.2.2.2.1,d.2.2.2.2.2.2.2.2.2.2.2.2.2.2.2.1,d.2.2.2.2.2.2.2.2.2.2.2.2.2.2.2.2.1,d.2.2.2.2.2.2.2.2.2.2.2.2.2.2.2.2.2.1,d.2.2.2.2.2.2.2.2.2.2.2.2.2.2.2.2.2.2.1,())
       else
        bif (Nat.beq (d.2.1.1.toNat) 2) then
         match yS (d.2.1,d.2.2.2.1,d.2.2.2.2.1,d.2.2.2.2.2.1,d.2.2.2.2.2.2.1,d.2.2.2.2.2.2.2.1,d.2.2.2.2.2.2.2.2.1,d.2.2.2.2.2.2.2.2.2.1,d.2.2.2.2.2.2.2.2.2.2.1,()) with
         |none=>none
         |some Q=>
          pY ((!Q.1),(-1:Int),Q.2.1,Q.2.2.1,Q.2.2.2.1,Q.2.2.2.2.1,Q.2.2.2.2.2.1,Q.2.2.2.2.2.2.1,Q.2.2.2.2.2.2.2.1,Q.2.2.2.2.2.2.2.2.1,d.2.2.2.2.2.2.2.2.2.2.2.1,d.2.2.2.2.2.2.2.2.2.2.2.2.1,d.2.2.2.2.2.2.2.2.2.2.2.2.2.1,d.2.2.2.2.2.2.2.2.2.2.2.2.2.2.1,d.2.2.2.2.2.2.2.2.2.2.2.2.2.2.2.1,d.2.2.2.2.2.2.2.2.2.2.2.2.2.2.2.2.1,d.2.2.2.2.2.2.2.2.2.2.2.2.2.2.2.2.2.1,d.2.2.2.2.2.2.2.2.2.2.2.2.2.2.2.2.2.2.1,())
        else
         bif (Nat.beq (d.2.1.1.toNat) 1) then
          match yR (d.2.1,d.2.2.2.1,d.2.2.2.2.1,d.2.2.2.2.2.1,d.2.2.2.2.2.2.1,d.2.2.2.2.2.2.2.1,d.2.2.2.2.2.2.2.2.1,d.2.2.2.2.2.2.2.2.2.1,d.2.2.2.2.2.2.2.2.2.2.1,()) with
          |none=>none
          |some Q=>
           pY ((!Q.1),(-1:Int),Q.2.1,Q.2.2.1,Q.2.2.2.1,Q.2.2.2.2.1,Q.2.2.2.2.2.1,Q.2.2.2.2.2.2.1,Q.2.2.2.2.2.2.2.1,Q.2.2.2.2.2.2.2.2.1,d.2.2.2.2.2.2.2.2.2.2.2.1,d.2.2.2.2.2.2.2.2.2.2.2.2.1,d.2.2.2.2.2.2.2.2.2.2.2.2.2.1,d.2.2.2.2.2.2.2.2.2.2.2.2.2.2.1,d.2.2.2.2.2.2.2.2.2.2.2.2.2.2.2.1,d.2.2.2.2.2.2.2.2.2.2.2.2.2.2.2.2.1,d.2.2.2.2.2.2.2.2.2.2.2.2.2.2.2.2.2.1,d.2.2.2.2.2.2.2.2.2.2.2.2.2.2.2.2.2.2.1,())
         else
          bif (Nat.beq (d.2.1.1.toNat) 0) then
           none
          else none
   else none
  else none
 else none
def Bx (d:Ue):N (Ue⊕(EC⊕EC)):=
 bif decide (d.1>=0) then
  bif decide (0<=d.1)&&decide (d.1<(d.2.2.1.length:Int)) then
   let t0:=(d.2.2.1.getD (d.1.toNat) (0,([],([],(([],([],())),([],([],(0,()))))))))
   match o6 (d.1,t0,d.2.1,d.2.2.2.1,d.2.2.2.2.1,d.2.2.2.2.2.1,d.2.2.2.2.2.2.1,d.2.2.2.2.2.2.2.1,d.2.2.2.2.2.2.2.2.1,d.2.2.2.2.2.2.2.2.2.1,d.2.2.2.2.2.2.2.2.2.2.1,d.2.2.2.2.2.2.2.2.2.2.2.1,d.2.2.2.2.2.2.2.2.2.2.2.2.1,d.2.2.2.2.2.2.2.2.2.2.2.2.2.1,d.2.2.2.2.2.2.2.2.2.2.2.2.2.2.1,d.2.2.2.2.2.2.2.2.2.2.2.2.2.2.2.1,d.2.2.2.2.2.2.2.2.2.2.2.2.2.2.2.2.1,d.2.2.2.2.2.2.2.2.2.2.2.2.2.2.2.2.2.1,d.2.2.2.2.2.2.2.2.2.2.2.2.2.2.2.2.2.2.1,()) with
   |none=>none
   |some ah=>
    bif !ah.1 then
     some (.inr (.inl (ah.2.1,d.2.2.1,ah.2.2.1,ah.2.2.2.1,ah.2.2.2.2.1,ah.2.2.2.2.2.1,ah.2.2.2.2.2.2.1,ah.2.2.2.2.2.2.2.1,ah.2.2.2.2.2.2.2.2.1,ah.2.2.2.2.2.2.2.2.2.1,ah.2.2.2.2.2.2.2.2.2.2.1,ah.2.2.2.2.2.2.2.2.2.2.2.1,ah.2.2.2.2.2.2.2.2.2.2.2.2.1,ah.2.2.2.2.2.2.2.2.2.2.2.2.2.1,ah.2.2.2.2.2.2.2.2.2.2.2.2.2.2.1,ah.2.2.2.2.2.2.2.2.2.2.2.2.2.2.2.1,ah.2.2.2.2.2.2.2.2.2.2.2.2.2.2.2.2.1,ah.2.2.2.2.2.2.2.2.2.2.2.2.2.2.2.2.2.1,())))
    else
     some (.inl ((i64.wrap (d.1-1)),ah.2.1,d.2.2.1,ah.2.2.1,ah.2.2.2.1,ah.2.2.2.2.1,ah.2.2.2.2.2.1,ah.2.2.2.2.2.2.1,ah.2.2.2.2.2.2.2.1,ah.2.2.2.2.2.2.2.2.1,ah.2.2.2.2.2.2.2.2.2.1,ah.2.2.2.2.2.2.2.2.2.2.1,ah.2.2.2.2.2.2.2.2.2.2.2.1,ah.2.2.2.2.2.2.2.2.2.2.2.2.1,ah.2.2.2.2.2.2.2.2.2.2.2.2.2.1,ah.2.2.2.2.2.2.2.2.2.2.2.2.2.2.1,ah.2.2.2.2.2.2.2.2.2.2.2.2.2.2.2.1,ah.2.2.2.2.2.2.2.2.2.2.2.2.2.2.2.2.1,ah.2.2.2.2.2.2.2.2.2.2.2.2.2.2.2.2.2.1,()))
  else none
 else
  some (.inr (.inr (d.2.1,d.2.2.1,d.2.2.2.1,d.2.2.2.2.1,d.2.2.2.2.2.1,d.2.2.2.2.2.2.1,d.2.2.2.2.2.2.2.1,d.2.2.2.2.2.2.2.2.1,d.2.2.2.2.2.2.2.2.2.1,d.2.2.2.2.2.2.2.2.2.2.1,d.2.2.2.2.2.2.2.2.2.2.2.1,d.2.2.2.2.2.2.2.2.2.2.2.2.1,d.2.2.2.2.2.2.2.2.2.2.2.2.2.1,d.2.2.2.2.2.2.2.2.2.2.2.2.2.2.1,d.2.2.2.2.2.2.2.2.2.2.2.2.2.2.2.1,d.2.2.2.2.2.2.2.2.2.2.2.2.2.2.2.2.1,d.2.2.2.2.2.2.2.2.2.2.2.2.2.2.2.2.2.1,d.2.2.2.2.2.2.2.2.2.2.2.2.2.2.2.2.2.2.1,())))
def P3:=b4 Bx
def RD (d:EC):N EC:=
 let t0:=(i64.wrap (((d.2.1.length):Int)-1))
 match P3 (t0,d.1,d.2.1,d.2.2.1,d.2.2.2.1,d.2.2.2.2.1,d.2.2.2.2.2.1,d.2.2.2.2.2.2.1,d.2.2.2.2.2.2.2.1,d.2.2.2.2.2.2.2.2.1,d.2.2.2.2.2.2.2.2.2.1,d.2.2.2.2.2.2.2.2.2.2.1,d.2.2.2.2.2.2.2.2.2.2.2.1,d.2.2.2.2.2.2.2.2.2.2.2.2.1,d.2.2.2.2.2.2.2.2.2.2.2.2.2.1,d.2.2.2.2.2.2.2.2.2.2.2.2.2.2.1,d.2.2.2.2.2.2.2.2.2.2.2.2.2.2.2.1,d.2.2.2.2.2.2.2.2.2.2.2.2.2.2.2.2.1,d.2.2.2.2.2.2.2.2.2.2.2.2.2.2.2.2.2.1,()) with
 |none=>none
 |some (.inl aG)=>
  some (aG.1,aG.2.1,aG.2.2.1,aG.2.2.2.1,aG.2.2.2.2.1,aG.2.2.2.2.2.1,aG.2.2.2.2.2.2.1,aG.2.2.2.2.2.2.2.1,aG.2.2.2.2.2.2.2.2.1,aG.2.2.2.2.2.2.2.2.2.1,aG.2.2.2.2.2.2.2.2.2.2.1,aG.2.2.2.2.2.2.2.2.2.2.2.1,aG.2.2.2.2.2.2.2.2.2.2.2.2.1,aG.2.2.2.2.2.2.2.2.2.2.2.2.2.1,aG.2.2.2.2.2.2.2.2.2.2.2.2.2.2.1,aG.2.2.2.2.2.2.2.2.2.2.2.2.2.2.2.1,aG.2.2.2.2.2.2.2.2.2.2.2.2.2.2.2.2.1,aG.2.2.2.2.2.2.2.2.2.2.2.2.2.2.2.2.2.1,())
 |some (.inr aG)=>
  some (aG.1,aG.2.1,aG.2.2.1,aG.2.2.2.1,aG.2.2.2.2.1,aG.2.2.2.2.2.1,aG.2.2.2.2.2.2.1,aG.2.2.2.2.2.2.2.1,aG.2.2.2.2.2.2.2.2.1,aG.2.2.2.2.2.2.2.2.2.1,aG.2.2.2.2.2.2.2.2.2.2.1,aG.2.2.2.2.2.2.2.2.2.2.2.1,aG.2.2.2.2.2.2.2.2.2.2.2.2.1,aG.2.2.2.2.2.2.2.2.2.2.2.2.2.1,aG.2.2.2.2.2.2.2.2.2.2.2.2.2.2.1,aG.2.2.2.2.2.2.2.2.2.2.2.2.2.2.2.1,aG.2.2.2.2.2.2.2.2.2.2.2.2.2.2.2.2.1,aG.2.2.2.2.2.2.2.2.2.2.2.2.2.2.2.2.2.1,())
def Ax (d:M×cG×G):N (oE×G):=
 match BS (d.2.1,()) with
 |none=>none
 |some Q=>
  match RD (0,Q.1,false,false,d.1,[],0,d.1,false,0,false,false,[],[],0,[],false,0,()) with
  |none=>none
  |some ah=>
   bif decide (ah.1=0) then
    some ((ah.2.2.1,(ah.2.2.2.1,((ah.2.2.2.2.1,(ah.2.2.2.2.2.1,(ah.2.2.2.2.2.2.1,()))),(ah.2.2.2.2.2.2.2.1,(ah.2.2.2.2.2.2.2.2.1,(ah.2.2.2.2.2.2.2.2.2.1,())))))),())
   else
    bif decide (ah.1=1) then
     some ((ah.2.2.2.2.2.2.2.2.2.2.1,(ah.2.2.2.2.2.2.2.2.2.2.2.1,((ah.2.2.2.2.2.2.2.2.2.2.2.2.1,(ah.2.2.2.2.2.2.2.2.2.2.2.2.2.1,(ah.2.2.2.2.2.2.2.2.2.2.2.2.2.2.1,()))),(ah.2.2.2.2.2.2.2.2.2.2.2.2.2.2.2.1,(ah.2.2.2.2.2.2.2.2.2.2.2.2.2.2.2.2.1,(ah.2.2.2.2.2.2.2.2.2.2.2.2.2.2.2.2.2.1,())))))),())
    else none
def vz (d:M×G):N (Bool×G):=
 some ((!decide ((d.1:M)=d.1)),())
def Jp (d:aK):N (Bool×G):=
 match vz (d.1,()) with
 |none=>none
 |some Q=>
  bif Q.1 then
   match vz (d.2.1,()) with
   |none=>none
   |some ah=>
    bif (!(!ah.1)) then
     some ((Op.bytesLess d.1 d.2.1),())
    else
     some (true,())
  else
   some ((Op.bytesLess d.1 d.2.1),())
def IB (d:M×G):N (Bool×G):=
 some ((!decide ((d.1:M)=d.1)),())
def G8 (d:Ui):N (Ui⊕((bc×M×Int×Int×G)⊕G)):=
 let t0:=decide (d.2.2.2.1<d.2.2.2.2.1)
 bif t0 then
  let t1:=i64.wrap (d.2.2.2.1+d.2.2.2.2.1)
  let t2:Int:=(Int.fdiv (IntKind.u64.wrap t1) (2^(min (Int.toNat 1) IntKind.u64.bits)))
  bif (decide (0<=(i64.wrap t2))&&decide (((i64.wrap t2):Int)<(d.1.length:Int))) then
   let t3:=(d.1.getD (Int.toNat (i64.wrap t2)) [])
   match Jp (t3,d.2.1,()) with
   |none=>none
   |some cB=>
    bif cB.1 then
     let t5:=i64.wrap ((i64.wrap t2)+1)
     some (.inl (d.1,d.2.1,d.2.2.1,t5,d.2.2.2.2.1,()))
    else
     some (.inl (d.1,d.2.1,d.2.2.1,d.2.2.2.1,(i64.wrap t2),()))
  else none
 else
  some (.inr (.inl (d.1,d.2.1,d.2.2.1,d.2.2.2.1,())))
def Qc:=b4 G8
def Hu (d:bc×M×G):N EW:=
 match Qc (d.1,d.2.1,((d.1.length):Int),0,((d.1.length):Int),()) with
 |none=>none
 |some (.inl z0)=>
  bif decide (z0.2.2.2.1<z0.2.2.1) then
   bif decide (0<=z0.2.2.2.1)&&decide (z0.2.2.2.1<(z0.1.length:Int)) then
    let t1:=(z0.1.getD (z0.2.2.2.1.toNat) [])
    bif (!(decide ((t1:M)=z0.2.1))) then
     bif decide (0<=z0.2.2.2.1)&&decide (z0.2.2.2.1<(z0.1.length:Int)) then
      let t2:=(z0.1.getD (z0.2.2.2.1.toNat) [])
      match IB (t2,()) with
      |none=>none
      |some bR=>
       bif bR.1 then
        match IB (z0.2.1,()) with
        |none=>none
        |some cB=>
         some (z0.2.2.2.1,cB.1,())
       else
        some (z0.2.2.2.1,false,())
     else none
    else
     some (z0.2.2.2.1,true,())
   else none
  else
   some (z0.2.2.2.1,false,())
 |some (.inr z0)=>
  none
def FT (d:M×bc×G):N (Int×G):=
 match Hu (d.2.1,d.1,()) with
 |none=>none
 |some Q=>
  bif Q.2.1 then
   some ((i64.wrap (Q.1+1)),())
  else
   some (Q.1,())
def Fj (d:oE×b5×Bool×G):N (b5×Bool×G):=
 bif d.1.1 then
  some (d.1.2.2.1,d.1.2.1,())
 else
  bif !d.2.2.1 then
   some (([],([],(0,()))),false,())
  else
   bif d.1.2.2.2.2.1 then
    some ((d.1.2.2.1.1,(d.2.1.2.1,(d.1.2.2.2.2.2.1,()))),true,())
   else
    some ((d.1.2.2.1.1,(d.2.1.2.1,(d.2.1.2.2.1,()))),true,())
def l9 (d:TV):N (TV⊕(KA⊕G)):=
 match kr (d.2.2.2.1.1,d.2.1,()) with
 |none=>none
 |some Q=>
  bif (!decide (Q.2.1=0)) then
   some (.inr (.inl (Q.2.1,d.2.2.1,([],([],(0,()))),false,0,())))
  else
   let t1:=i64.wrap (d.2.2.2.2.2.2.2.2.1+1)
   match tT (Q.1,()) with
   |none=>none
   |some aJ=>
    bif aJ.1 then
     match Fu (Q.1.1,d.1,()) with
     |none=>none
     |some bR=>
      some (.inr (.inl (0,d.2.2.1,bR.1,bR.2.1,t1,())))
    else
     match Ax (d.1,Q.1.2.2.2.2.1,()) with
     |none=>none
     |some bR=>
      bif bR.1.1 then
       some (.inr (.inl (0,(bR.1::d.2.2.1),([],([],(0,()))),false,t1,())))
      else
       match FT (bR.1.2.2.2.1,Q.1.2.1,()) with
       |none=>none
       |some cB=>
        bif decide (0<=cB.1)&&decide (cB.1<(Q.1.2.2.1.length:Int)) then
         let t5:=(Q.1.2.2.1.getD (cB.1.toNat) 0)
         some (.inl (bR.1.2.2.2.1,t5,(bR.1::d.2.2.1),d.2.2.2.1,d.2.2.2.2.1,d.2.2.2.2.2.1,d.2.2.2.2.2.2.1,d.2.2.2.2.2.2.2.1,t1,()))
        else none
def Fk:=b4 l9
def wc (d:KA):N (KA⊕((Int×b5×Bool×Int×G)⊕G)):=
 bif (List.isEmpty d.2.1) then
  some (.inr (.inl (d.1,d.2.2.1,d.2.2.2.1,d.2.2.2.2.1,())))
 else
  match (List.head? d.2.1) with
  |none=>none
  |some D3=>
   let t1:=decide (d.2.2.2.2.1>0)
   bif t1 then
    match Fj (D3,d.2.2.1,d.2.2.2.1,()) with
    |none=>none
    |some aJ=>
     some (.inl (d.1,(List.tail d.2.1),aJ.1,aJ.2.1,d.2.2.2.2.1,()))
   else
    some (.inl (d.1,(List.tail d.2.1),d.2.2.1,d.2.2.2.1,d.2.2.2.2.1,()))
def Ee:=b4 wc
def pF (d:EM):N px:=
 match Fk (d.2.1,d.1.2.1,[],d.1,[],[],0,false,0,()) with
 |none=>none
 |some (.inl z0)=>
  match Ee (z0.1,z0.2.1,z0.2.2.1,z0.2.2.2.1,z0.2.2.2.2.1,()) with
  |none=>none
  |some (.inl aG)=>
   some (aG.2.1,aG.2.2.1,aG.2.2.2.1,aG.1,())
  |some (.inr aG)=>
   none
 |some (.inr z0)=>
  none
def J5 (d:hi):N (Bool×G):=
 bif decide (d.2.1<=d.1) then
  some ((decide (d.1<=d.2.2.1)),())
 else
  some (false,())
def zr (d:hi×G):N (Bool×G):=
 match J5 (d.1.1,2,64,()) with
 |none=>none
 |some Q=>
  bif Q.1 then
   match J5 (d.1.2.1,2,16,()) with
   |none=>none
   |some ah=>
    bif ah.1 then
     match J5 (d.1.2.2.1,1,64,()) with
     |none=>none
     |some aJ=>
      some (aJ.1,())
    else
     some (false,())
  else
   some (false,())
def Fs (d:jb×G):N (Bool×G):=
 some ((!d.1.1),())
def xx (d:cN×Int×Int×G):N ((cN×Int×Int×G)⊕((Int×G)⊕G)):=
 bif decide (d.2.2.1<d.2.1) then
  bif decide (0<=d.2.2.1)&&decide (d.2.2.1<(d.1.length:Int)) then
   let t0:=(d.1.getD (d.2.2.1.toNat) (false,(false,(0,(([],([],([],([],([],()))))),())))))
   match Fs (t0,()) with
   |none=>none
   |some ah=>
    bif ah.1 then
     some (.inr (.inl (d.2.2.1,())))
    else
     some (.inl (d.1,d.2.1,(i64.wrap (d.2.2.1+1)),()))
  else none
 else
  some (.inr (.inr (())))
def P8:=b4 xx
def BU (d:bZ):N (Int×G):=
 match P8 (d.1,((d.1.length):Int),0,()) with
 |none=>none
 |some (.inl z0)=>
  some (z0.1,())
 |some (.inr z0)=>
  some ((-1:Int),())
def Ag (d:bZ×G):N bZ:=
 bif (decide (0<=((d.1.1.length):Int))&&decide ((((d.1.1.length):Int):Int)<=((d.1.1.length):Int))&&decide (((d.1.1.length):Int)*136<=(bp:Int))) then
  let t0:=(List.take (List.length (List.replicate (Int.toNat ((d.1.1.length):Int)) (false,(false,((0:Int),((([]:aj),(([]:bc),(([]:dR),(([]:hH),(([]:cG),()))))),())))))) d.1.1)
  let t1:=(List.take 0 (List.replicate (Int.toNat ((d.1.1.length):Int)) (false,(false,((0:Int),((([]:aj),(([]:bc),(([]:dR),(([]:hH),(([]:cG),()))))),())))))++t0++List.drop (0+t0.length) (List.replicate (Int.toNat ((d.1.1.length):Int)) (false,(false,((0:Int),((([]:aj),(([]:bc),(([]:dR),(([]:hH),(([]:cG),()))))),()))))))
  some (t1,())
 else none
def Eh (d:Uk):N (Uk⊕((Int×Int×bZ×G)⊕(bZ×cZ×cN×G))):=
 bif decide (d.2.2.1<d.2.1) then
  bif decide (0<=d.2.2.1)&&decide (d.2.2.1<(d.1.length:Int)) then
   let t0:=(d.1.getD (d.2.2.1.toNat) 0)
   match rM (d.2.2.2.1,t0,()) with
   |none=>none
   |some ah=>
    bif !ah.1 then
     some (.inr (.inl (0,110,d.2.2.2.1,())))
    else
     some (.inl (d.1,d.2.1,(i64.wrap (d.2.2.1+1)),d.2.2.2.1,d.2.2.2.2.1,d.2.2.2.2.2.1,()))
  else none
 else
  some (.inr (.inr (d.2.2.2.1,d.2.2.2.2.1,d.2.2.2.2.2.1,())))
def Nh:=b4 Eh
def Ei (d:Ul):N (Ul⊕((Int×cN×cN×G)⊕G)):=
 bif decide (d.2.2.2.1<d.2.2.1) then
  bif decide (0<=d.2.2.2.1)&&decide (d.2.2.2.1<(d.2.1.length:Int)) then
   let t0:=(d.2.1.getD (d.2.2.2.1.toNat) 0)
   bif decide (0<=t0)&&decide (t0<(d.2.2.2.2.2.1.length:Int)) then
    let t1:=(d.2.2.2.2.2.1.getD (t0.toNat) (false,(false,(0,(([],([],([],([],([],()))))),())))))
    let t2:=i64.wrap (t1.2.2.1+1)
    bif decide (0<=t0)&&decide (t0<(d.2.2.2.2.2.1.length:Int)) then
     let t3:=(List.set d.2.2.2.2.2.1 (t0.toNat) ((d.2.2.2.2.2.1.getD (t0.toNat) (false,(false,(0,(([],([],([],([],([],()))))),()))))).1,((d.2.2.2.2.2.1.getD (t0.toNat) (false,(false,(0,(([],([],([],([],([],()))))),()))))).2.1,(t2,(d.2.2.2.2.2.1.getD (t0.toNat) (false,(false,(0,(([],([],([],([],([],()))))),()))))).2.2.2))))
     let t4:=i64.wrap (d.2.2.2.1+1)
     some (.inl (d.1,d.2.1,d.2.2.1,t4,d.2.2.2.2.1,t3,()))
    else none
   else none
  else none
 else
  some (.inr (.inl (d.1,d.2.2.2.2.1,d.2.2.2.2.2.1,())))
def Ni:=b4 Ei
def E8 (d:Int×cZ×cN×cN×G):N qf:=
 bif decide (0<=d.1)&&decide (d.1<(d.2.2.2.1.length:Int)) then
  let t0:=(List.set d.2.2.2.1 (d.1.toNat) (true,(false,(1,(d.2.1,())))))
  match Ni (d.1,d.2.1.2.2.1,((d.2.1.2.2.1.length):Int),0,d.2.2.1,t0,()) with
  |none=>none
  |some (.inl aG)=>
   some ((aG.2.2.1,()),aG.1,0,())
  |some (.inr aG)=>
   none
 else none
def E7 (d:Int×bZ×cZ×cN×G):N qf:=
 bif decide (d.1>=4096) then
  some (d.2.1,0,111,())
 else
  match Ag (d.2.1,()) with
  |none=>none
  |some Q=>
   let t1:=(decide (d.1=((Q.1.length):Int)))
   bif t1 then
    bif (decide ((Q.1.length+List.length ([(false,(false,(0,(([],([],([],([],([],()))))),()))))]:cN))*136<=bp)) then
     let t2:cN:=(Q.1++([(false,(false,(0,(([],([],([],([],([],()))))),()))))]:cN))
     E8 (d.1,d.2.2.1,d.2.2.2.1,t2,())
    else none
   else
    E8 (d.1,d.2.2.1,d.2.2.2.1,Q.1,())
def qs (d:bZ×cZ×G):N qf:=
 match Nh (d.2.1.2.2.1,((d.2.1.2.2.1.length):Int),0,d.1,d.2.1,[],()) with
 |none=>none
 |some (.inl z0)=>
  some (z0.2.2.1,z0.1,z0.2.1,())
 |some (.inr z0)=>
  match BU (z0.1.1,()) with
  |none=>none
  |some ah=>
   bif decide (ah.1<0) then
    E7 (((z0.1.1.length):Int),z0.1,z0.2.1,z0.2.2.1,())
   else
    E7 (ah.1,z0.1,z0.2.1,z0.2.2.1,())
def OI (d:hi×G):N ur:=
 match zr (d.1,()) with
 |none=>none
 |some Q=>
  bif !Q.1 then
   some ((([],()),(0,((0,(0,(0,()))),()))),120,())
  else
   match qs (([],()),([],([],([],([],([],()))))),()) with
   |none=>none
   |some ah=>
    some ((ah.1,(ah.2.1,(d.1,()))),ah.2.2.1,())
def rN (d:Int×G):N (M×G):=
 let t0:=(decide (((Int.tmod d.1 24):Int)<20))
 bif t0 then
  let t1:=(IntKind.u8.wrap (Int.tdiv (Int.tmod d.1 24) 5))
  bif (decide (0<=t1)&&decide (t1<(List.length ([([97,47]:M),([98,47]:M),([97,47,98,47]:M),([99,47]:M)]:bc):Int))) then
   let t2:=(List.getD ([([97,47]:M),([98,47]:M),([97,47,98,47]:M),([99,47]:M)]:bc) (t1.toNat) [])
   let t3:Int:=(Int.tmod (Int.tmod d.1 24) 5)
   bif (decide (0<=t3)&&decide (t3<(List.length ([([1]:M),([2,0,0]:M),([2,0,1]:M),([2,0,2]:M),([3,120]:M)]:bc):Int))) then
    let t4:=(List.getD ([([1]:M),([2,0,0]:M),([2,0,1]:M),([2,0,2]:M),([3,120]:M)]:bc) (t3.toNat) [])
    bif decide (t2.length+t4.length<=bp) then
     some ((t2++t4),())
    else none
   else none
  else none
 else
  let t1:=(IntKind.u8.wrap ((Int.tmod d.1 24)-20))
  bif (decide (0<=t1)&&decide (t1<(List.length ([([1]:M),([5,48,48,48,48,48,48,48,49,47,1]:M),([6,97,47,1]:M),([97,47,98,47,99,47,1]:M)]:bc):Int))) then
   let t2:=(List.getD ([([1]:M),([5,48,48,48,48,48,48,48,49,47,1]:M),([6,97,47,1]:M),([97,47,98,47,99,47,1]:M)]:bc) (t1.toNat) [])
   some (t2,())
  else none
def Fw (d:hi×G):N (b5×G):=
 match rN (d.1.1,()) with
 |none=>none
 |some Q=>
  bif (decide (0<=(Int.tmod d.1.2.1 4))&&decide (((Int.tmod d.1.2.1 4):Int)<(List.length ([[],([118]:M),([119,120]:M),([120,121,122]:M)]:bc):Int))) then
   let t1:=(List.getD ([[],([118]:M),([119,120]:M),([120,121,122]:M)]:bc) (Int.toNat (Int.tmod d.1.2.1 4)) [])
   let t2:=i64.wrap (Int.tmod d.1.2.2.1 4)
   some ((Q.1,(t1,(t2,()))),())
  else none
def Tv (d:pM):N (pM⊕((Bool×b5×aj×G)⊕G)):=
 bif decide (0<=d.2.2.1)&&decide (d.2.2.1<(d.1.length:Int)) then
  let t0:=(d.1.getD (d.2.2.1.toNat) ([],([],(0,()))))
  let t1:=(!decide ((t0.1:M)=d.2.2.2.1.1))
  bif t1 then
   bif decide (0<=d.2.2.1)&&decide (d.2.2.1<(d.1.length:Int)) then
    let t2:=(d.1.getD (d.2.2.1.toNat) ([],([],(0,()))))
    bif (decide ((d.2.2.2.2.1.length+List.length ([t2]:aj))*40<=bp)) then
     let t3:aj:=(d.2.2.2.2.1++([t2]:aj))
     some (.inl (d.1,d.2.1,(i64.wrap (d.2.2.1+1)),d.2.2.2.1,t3,()))
    else none
   else none
  else
   some (.inl (d.1,d.2.1,(i64.wrap (d.2.2.1+1)),d.2.2.2.1,d.2.2.2.2.1,()))
 else none
def Tw (d:Up):N (pM⊕((Bool×b5×aj×G)⊕G)):=
 bif d.2.2.2.1 then
  bif (decide ((d.2.2.2.2.2.1.length+List.length ([d.2.2.2.2.1]:aj))*40<=bp)) then
   let t0:aj:=(d.2.2.2.2.2.1++([d.2.2.2.2.1]:aj))
   Tv (d.1,true,d.2.2.1,d.2.2.2.2.1,t0,())
  else none
 else
  Tv (d.1,d.2.1,d.2.2.1,d.2.2.2.2.1,d.2.2.2.2.2.1,())
def wl (d:pM):N (pM⊕((Bool×b5×aj×G)⊕G)):=
 let t0:=(decide (d.2.2.1<((d.1.length):Int)))
 bif t0 then
  bif !d.2.1 then
   bif decide (0<=d.2.2.1)&&decide (d.2.2.1<(d.1.length:Int)) then
    let t1:=(d.1.getD (d.2.2.1.toNat) ([],([],(0,()))))
    Tw (d.1,d.2.1,d.2.2.1,(!(Op.bytesLess t1.1 d.2.2.2.1.1)),d.2.2.2.1,d.2.2.2.2.1,())
   else none
  else
   Tw (d.1,d.2.1,d.2.2.1,false,d.2.2.2.1,d.2.2.2.2.1,())
 else
  some (.inr (.inl (d.2.1,d.2.2.2.1,d.2.2.2.2.1,())))
def MV:=b4 wl
def FR (d:aj×b5×G):N (aj×G):=
 match MV (d.1,false,0,d.2.1,[],()) with
 |none=>none
 |some (.inl z0)=>
  bif !z0.1 then
   bif (decide ((z0.2.2.1.length+List.length ([z0.2.1]:aj))*40<=bp)) then
    let t1:aj:=(z0.2.2.1++([z0.2.1]:aj))
    some (t1,())
   else none
  else
   some (z0.2.2.1,())
 |some (.inr z0)=>
  none
def C9 (d:lZ×Int×Bool×aj×G):N (KF⊕((aj×G)⊕G)):=
 bif d.2.2.1 then
  bif decide (0<=d.2.1)&&decide (d.2.1<(d.1.length:Int)) then
   let t0:=(d.1.getD (d.2.1.toNat) (0,(0,(0,()))))
   match Fw (t0,()) with
   |none=>none
   |some ah=>
    match FR (d.2.2.2.1,ah.1,()) with
    |none=>none
    |some aJ=>
     some (.inl (d.1,(i64.wrap (d.2.1+1)),aJ.1,()))
  else none
 else
  some (.inr (.inl (d.2.2.2.1,())))
def yO (d:KF):N (KF⊕((aj×G)⊕G)):=
 let t0:=(decide (d.2.1<((d.1.length):Int)))
 bif t0 then
  C9 (d.1,d.2.1,(decide (d.2.1<40)),d.2.2.1,())
 else
  C9 (d.1,d.2.1,false,d.2.2.1,())
def JO:=b4 yO
def Aj (d:lZ×G):N (aj×G):=
 match JO (d.1,0,[],()) with
 |none=>none
 |some (.inl z0)=>
  some (z0.1,())
 |some (.inr z0)=>
  none
def zu (d:fi):N (cZ×Int×G):=
 match wi (d.1,d.2.1,()) with
 |none=>none
 |some Q=>
  bif !Q.1 then
   some (([],([],([],([],([],()))))),110,())
  else
   bif decide (0<=d.2.1)&&decide (d.2.1<(d.1.1.length:Int)) then
    let t1:=(d.1.1.getD (d.2.1.toNat) (false,(false,(0,(([],([],([],([],([],()))))),())))))
    bif t1.2.1 then
     some (([],([],([],([],([],()))))),112,())
    else
     bif decide (0<=d.2.1)&&decide (d.2.1<(d.1.1.length:Int)) then
      let t2:=(d.1.1.getD (d.2.1.toNat) (false,(false,(0,(([],([],([],([],([],()))))),())))))
      some (t2.2.2.2.1,0,())
     else none
   else none
def qj (d:Int×G):N (M×G):=
 bif (decide (0<=(Int.tmod d.1 5))&&decide (((Int.tmod d.1 5):Int)<(List.length ([([97,47]:M),([98,47]:M),([97,47,98,47]:M),([99,47]:M),([100,47]:M)]:bc):Int))) then
  let t0:=(List.getD ([([97,47]:M),([98,47]:M),([97,47,98,47]:M),([99,47]:M),([100,47]:M)]:bc) (Int.toNat (Int.tmod d.1 5)) [])
  some (t0,())
 else none
def zt (d:Int×G):N (M×G):=
 match qj ((Int.tmod d.1 4),()) with
 |none=>none
 |some Q=>
  let t1:=(IntKind.u8.wrap (Int.tdiv d.1 4))
  bif (decide (0<=(Int.tmod t1 5))&&decide (((Int.tmod t1 5):Int)<(List.length ([([1]:M),([2,0,0]:M),([2,0,1]:M),([2,0,2]:M),([3,120]:M)]:bc):Int))) then
   let t2:=(List.getD ([([1]:M),([2,0,0]:M),([2,0,1]:M),([2,0,2]:M),([3,120]:M)]:bc) (Int.toNat (Int.tmod t1 5)) [])
   bif decide (Q.1.length+t2.length<=bp) then
    some ((Q.1++t2),())
   else none
  else none
def W1 (d:KK):N (KK⊕(KK⊕G)):=
 bif decide (d.2.1>0) then
  bif (decide (0<=(i64.wrap (d.2.1-1)))&&decide (((i64.wrap (d.2.1-1)):Int)<(d.1.length:Int))) then
   let t0:Int:=((d.1.getD (Int.toNat (i64.wrap (d.2.1-1))) 0).toNat:Int)
   bif decide (t0=255) then
    some (.inl (d.1,(i64.wrap (d.2.1-1)),d.2.2.1,d.2.2.2.1,()))
   else
    some (.inr (.inl (d.1,d.2.1,d.2.2.1,d.2.2.2.1,())))
  else none
 else
  some (.inr (.inl (d.1,d.2.1,d.2.2.1,d.2.2.2.1,())))
def W3:=b4 W1
def nP (d:M×G):N (aK×G):=
 match W3 (d.1,((d.1.length):Int),[],[],()) with
 |none=>none
 |some (.inl z0)=>
  bif decide (z0.2.1=0) then
   some ((z0.1,([],())),())
  else
   bif (decide ((0:Int)<=(i64.wrap (z0.2.1-1)))&&decide (((i64.wrap (z0.2.1-1)):Int)<=(z0.1.length:Int))) then
    let t1:=(List.drop 0 (List.take (Int.toNat (i64.wrap (z0.2.1-1))) z0.1))
    bif (decide (0<=(i64.wrap (z0.2.1-1)))&&decide (((i64.wrap (z0.2.1-1)):Int)<(z0.1.length:Int))) then
     let t2:Int:=((z0.1.getD (Int.toNat (i64.wrap (z0.2.1-1))) 0).toNat:Int)
     let t3:M:=(tZ ([(IntKind.u8.wrap (t2+1))]:dR))
     bif decide (t1.length+t3.length<=bp) then
      some ((z0.1,((t1++t3),())),())
     else none
    else none
   else none
 |some (.inr z0)=>
  none
def tf (d:aK):N (Bool×G):=
 let t0:=(decide ((((d.1.length):Int):Int)>=((d.2.1.length):Int)))
 bif t0 then
  bif (decide ((0:Int)<=((d.2.1.length):Int))&&decide ((((d.2.1.length):Int):Int)<=(d.1.length:Int))) then
   let t1:=(List.drop 0 (List.take (Int.toNat ((d.2.1.length):Int)) d.1))
   some ((decide ((t1:M)=d.2.1)),())
  else none
 else
  some (false,())
def vV (d:Int×G):N (M×G):=
 bif (decide (0<=(Int.tmod d.1 5))&&decide (((Int.tmod d.1 5):Int)<(List.length ([[],([120]:M),([121,121]:M),([49,50,51,52,53,54,55,56,57,48]:M),([0,255]:M)]:bc):Int))) then
  let t0:=(List.getD ([[],([120]:M),([121,121]:M),([49,50,51,52,53,54,55,56,57,48]:M),([0,255]:M)]:bc) (Int.toNat (Int.tmod d.1 5)) [])
  some (t0,())
 else none
def oH (d:M×G):N (aK×G):=
 bif decide (d.1.length+List.length ([0]:M)<=bp) then
  some ((d.1,((d.1++([0]:M)),())),())
 else none
def sN (d:M×M×M×Bool×n7×Int×M×M×M×M×M×M×Int×aK×G):N (Ud⊕G):=
 bif d.2.2.2.1 then
  let t0:=decide ((d.2.1:M)=([100,47]:M))
  bif t0 then
   some (.inl (d.1,d.2.1,([99,47]:M),d.2.2.2.2.1,d.2.2.2.2.2.1,d.2.2.2.2.2.2.1,d.2.2.2.2.2.2.2.1,d.2.2.2.2.2.2.2.2.1,d.2.2.2.2.2.2.2.2.2.1,d.2.2.2.2.2.2.2.2.2.2.1,d.2.2.2.2.2.2.2.2.2.2.2.1,d.2.2.2.2.2.2.2.2.2.2.2.2.1,d.2.2.2.2.2.2.2.2.2.2.2.2.2.1,()))
  else
   some (.inl (d.1,d.2.1,([100,47]:M),d.2.2.2.2.1,d.2.2.2.2.2.1,d.2.2.2.2.2.2.1,d.2.2.2.2.2.2.2.1,d.2.2.2.2.2.2.2.2.1,d.2.2.2.2.2.2.2.2.2.1,d.2.2.2.2.2.2.2.2.2.2.1,d.2.2.2.2.2.2.2.2.2.2.2.1,d.2.2.2.2.2.2.2.2.2.2.2.2.1,d.2.2.2.2.2.2.2.2.2.2.2.2.2.1,()))
 else
  some (.inl (d.1,d.2.1,d.2.2.1,d.2.2.2.2.1,d.2.2.2.2.2.1,d.2.2.2.2.2.2.1,d.2.2.2.2.2.2.2.1,d.2.2.2.2.2.2.2.2.1,d.2.2.2.2.2.2.2.2.2.1,d.2.2.2.2.2.2.2.2.2.2.1,d.2.2.2.2.2.2.2.2.2.2.2.1,d.2.2.2.2.2.2.2.2.2.2.2.2.1,d.2.2.2.2.2.2.2.2.2.2.2.2.2.1,()))
def rn (d:Ud):N (bB⊕G):=
 let t0:Int:=(Int.tmod d.2.2.2.1.2.2.2.2.2.1 8)
 let t1:=(decide (((Int.tmod d.2.2.2.1.1 6):Int)=0))
 bif t1 then
  match vV (d.2.2.2.1.2.2.1,()) with
  |none=>none
  |some aJ=>
   some (.inl (1,d.1,aJ.1,([],([],())),[],[],(i64.wrap t0),()))
 else
  let t2:=(decide (((Int.tmod d.2.2.2.1.1 6):Int)=1))
  bif t2 then
   some (.inl (2,d.1,[],([],([],())),[],[],0,()))
  else
   let t3:=(decide (((Int.tmod d.2.2.2.1.1 6):Int)=2))
   bif t3 then
    some (.inl (3,[],[],d.2.2.2.2.2.2.2.2.2.2.2.2.1,[],[],0,()))
   else
    let t4:=(decide (((Int.tmod d.2.2.2.1.1 6):Int)=3))
    bif t4 then
     some (.inl (4,[],[],([],([],())),d.2.1,d.2.2.1,0,()))
    else
     let t5:=(decide (((Int.tmod d.2.2.2.1.1 6):Int)=4))
     bif t5 then
      some (.inl (5,[],[],([],([],())),d.2.1,d.2.2.1,0,()))
     else
      some (.inl (6,[],[],d.2.2.2.2.2.2.2.2.2.2.2.2.1,[],[],(i64.wrap t0),()))
def nr (d:M×n7×Int×M×M×M×M×M×M×Int×aK×G):N (bB⊕G):=
 match qj (d.2.1.2.1,()) with
 |none=>none
 |some Q=>
  match qj (d.2.1.2.2.2.1,()) with
  |none=>none
  |some ah=>
   match tf (Q.1,ah.1,()) with
   |none=>none
   |some aJ=>
    bif !aJ.1 then
     match tf (ah.1,Q.1,()) with
     |none=>none
     |some bR=>
      match sN (d.1,Q.1,ah.1,bR.1,d.2.1,d.2.2.1,d.2.2.2.1,d.2.2.2.2.1,d.2.2.2.2.2.1,d.2.2.2.2.2.2.1,d.2.2.2.2.2.2.2.1,d.2.2.2.2.2.2.2.2.1,d.2.2.2.2.2.2.2.2.2.1,d.2.2.2.2.2.2.2.2.2.2.1,()) with
      |none=>none
      |some (.inl z4)=>
       match rn (z4.1,z4.2.1,z4.2.2.1,z4.2.2.2.1,z4.2.2.2.2.1,z4.2.2.2.2.2.1,z4.2.2.2.2.2.2.1,z4.2.2.2.2.2.2.2.1,z4.2.2.2.2.2.2.2.2.1,z4.2.2.2.2.2.2.2.2.2.1,z4.2.2.2.2.2.2.2.2.2.2.1,z4.2.2.2.2.2.2.2.2.2.2.2.1,z4.2.2.2.2.2.2.2.2.2.2.2.2.1,()) with
       |none=>none
       |some (.inl z5)=>
        some (.inl (z5.1,z5.2.1,z5.2.2.1,z5.2.2.2.1,z5.2.2.2.2.1,z5.2.2.2.2.2.1,z5.2.2.2.2.2.2.1,()))
       |some (.inr z5)=>
        none
      |some (.inr z4)=>
       none
    else
     match sN (d.1,Q.1,ah.1,true,d.2.1,d.2.2.1,d.2.2.2.1,d.2.2.2.2.1,d.2.2.2.2.2.1,d.2.2.2.2.2.2.1,d.2.2.2.2.2.2.2.1,d.2.2.2.2.2.2.2.2.1,d.2.2.2.2.2.2.2.2.2.1,d.2.2.2.2.2.2.2.2.2.2.1,()) with
     |none=>none
     |some (.inl z3)=>
      match rn (z3.1,z3.2.1,z3.2.2.1,z3.2.2.2.1,z3.2.2.2.2.1,z3.2.2.2.2.2.1,z3.2.2.2.2.2.2.1,z3.2.2.2.2.2.2.2.1,z3.2.2.2.2.2.2.2.2.1,z3.2.2.2.2.2.2.2.2.2.1,z3.2.2.2.2.2.2.2.2.2.2.1,z3.2.2.2.2.2.2.2.2.2.2.2.1,z3.2.2.2.2.2.2.2.2.2.2.2.2.1,()) with
      |none=>none
      |some (.inl z4)=>
       some (.inl (z4.1,z4.2.1,z4.2.2.1,z4.2.2.2.1,z4.2.2.2.2.1,z4.2.2.2.2.2.1,z4.2.2.2.2.2.2.1,()))
      |some (.inr z4)=>
       none
     |some (.inr z3)=>
      none
def rG (d:n7×G):N (bB×G):=
 match zt (d.1.2.1,()) with
 |none=>none
 |some Q=>
  match zt (d.1.2.2.2.1,()) with
  |none=>none
  |some ah=>
   let t2:M:=(bif (Op.bytesLess Q.1 ah.1||decide ((Q.1:M)=ah.1)) then Q.1 else ah.1)
   let t3:M:=(bif !(Op.bytesLess Q.1 ah.1) then Q.1 else ah.1)
   let t4:=(decide (((Int.tmod d.1.2.2.2.2.1 4):Int)=0))
   bif t4 then
    match qj (d.1.2.1,()) with
    |none=>none
    |some fX=>
     match nP (fX.1,()) with
     |none=>none
     |some jn=>
      match nr (Q.1,d.1,0,[],[],[],[],[],[],0,jn.1,()) with
      |none=>none
      |some (.inl gg)=>
       some ((gg.1,(gg.2.1,(gg.2.2.1,(gg.2.2.2.1,(gg.2.2.2.2.1,(gg.2.2.2.2.2.1,(gg.2.2.2.2.2.2.1,()))))))),())
      |some (.inr gg)=>
       none
   else
    let t5:=(decide (((Int.tmod d.1.2.2.2.2.1 16):Int)=1))
    bif t5 then
     match nr (Q.1,d.1,0,[],[],[],[],[],[],0,(Q.1,([],())),()) with
     |none=>none
     |some (.inl hX)=>
      some ((hX.1,(hX.2.1,(hX.2.2.1,(hX.2.2.2.1,(hX.2.2.2.2.1,(hX.2.2.2.2.2.1,(hX.2.2.2.2.2.2.1,()))))))),())
     |some (.inr hX)=>
      none
    else
     let t6:=(decide (((Int.tmod d.1.2.2.2.2.1 16):Int)=5))
     bif t6 then
      match nr (Q.1,d.1,0,[],[],[],[],[],[],0,([],([],())),()) with
      |none=>none
      |some (.inl gg)=>
       some ((gg.1,(gg.2.1,(gg.2.2.1,(gg.2.2.2.1,(gg.2.2.2.2.1,(gg.2.2.2.2.2.1,(gg.2.2.2.2.2.2.1,()))))))),())
      |some (.inr gg)=>
       none
     else
      bif decide ((Q.1:M)=ah.1) then
       match oH (Q.1,()) with
       |none=>none
       |some Sv=>
        match nr (Q.1,d.1,0,[],[],[],[],[],[],0,Sv.1,()) with
        |none=>none
        |some (.inl n0)=>
         some ((n0.1,(n0.2.1,(n0.2.2.1,(n0.2.2.2.1,(n0.2.2.2.2.1,(n0.2.2.2.2.2.1,(n0.2.2.2.2.2.2.1,()))))))),())
        |some (.inr n0)=>
         none
      else
       match nr (Q.1,d.1,0,[],[],[],[],[],[],0,(t2,(t3,())),()) with
       |none=>none
       |some (.inl gg)=>
        some ((gg.1,(gg.2.1,(gg.2.2.1,(gg.2.2.2.1,(gg.2.2.2.2.1,(gg.2.2.2.2.2.1,(gg.2.2.2.2.2.2.1,()))))))),())
       |some (.inr gg)=>
        none
def Da (d:(List n7)×Int×Int×Bool×cG×G):N (Kv⊕((cG×G)⊕G)):=
 bif d.2.2.2.1 then
  bif decide (0<=d.2.2.1)&&decide (d.2.2.1<(d.1.length:Int)) then
   let t0:=(d.1.getD (d.2.2.1.toNat) (0,(0,(0,(0,(0,(0,())))))))
   match rG (t0,()) with
   |none=>none
   |some ah=>
    bif (decide ((d.2.2.2.2.1.length+List.length ([ah.1]:cG))*112<=bp)) then
     let t2:cG:=(d.2.2.2.2.1++([ah.1]:cG))
     some (.inl (d.1,d.2.1,(i64.wrap (d.2.2.1+1)),t2,()))
    else none
  else none
 else
  some (.inr (.inl (d.2.2.2.2.1,())))
def yP (d:Kv):N (Kv⊕((cG×G)⊕G)):=
 let t0:=(decide (d.2.2.1<((d.1.length):Int)))
 bif t0 then
  Da (d.1,d.2.1,d.2.2.1,(decide (d.2.2.1<d.2.1)),d.2.2.2.1,())
 else
  Da (d.1,d.2.1,d.2.2.1,false,d.2.2.2.1,())
def L8:=b4 yP
def Fx (d:(List n7)×Int×G):N (cG×G):=
 match L8 (d.1,d.2.1,0,[],()) with
 |none=>none
 |some (.inl z0)=>
  some (z0.1,())
 |some (.inr z0)=>
  none
def rp (d:Int×Bool×bB×G):N (aq×G):=
 bif d.2.1 then
  match nP (d.2.2.1.2.2.2.2.1,()) with
  |none=>none
  |some Q=>
   some (([Q.1]:aq),())
 else
  bif decide (d.1=6) then
   some (([d.2.2.1.2.2.2.1]:aq),())
  else
   some ([],())
def nH (d:bB×G):N (aq×G):=
 bif decide (d.1.1=4) then
  rp (d.1.1,true,d.1,())
 else
  rp (d.1.1,(decide (d.1.1=5)),d.1,())
def k3 (d:Int×Bool×bB×G):N (aq×G):=
 bif d.2.1 then
  match oH (d.2.2.1.2.1,()) with
  |none=>none
  |some Q=>
   some (([Q.1]:aq),())
 else
  bif decide (d.1=4) then
   match nP (d.2.2.1.2.2.2.2.1,()) with
   |none=>none
   |some Q=>
    match nP (d.2.2.1.2.2.2.2.2.1,()) with
    |none=>none
    |some ah=>
     some (([Q.1,ah.1]:aq),())
  else
   bif decide (d.1=5) then
    match nP (d.2.2.1.2.2.2.2.2.1,()) with
    |none=>none
    |some Q=>
     some (([Q.1]:aq),())
   else
    some (([d.2.2.1.2.2.2.1]:aq),())
def jd (d:bB×G):N (aq×G):=
 bif decide (d.1.1=1) then
  k3 (d.1.1,true,d.1,())
 else
  k3 (d.1.1,(decide (d.1.1=2)),d.1,())
def nu (d:uq):N (Bool×G):=
 match oD (d.2.1,()) with
 |none=>none
 |some Q=>
  bif !Q.1 then
   match oD (d.1,()) with
   |none=>none
   |some ah=>
    bif !ah.1 then
     let t2:=(Op.bytesLess d.1.1 d.2.1.1||decide ((d.1.1:M)=d.2.1.1))
     bif t2 then
      match rF (d.1.2.1,d.2.1.2.1,()) with
      |none=>none
      |some bR=>
       some ((!bR.1),())
     else
      some (false,())
    else
     some (false,())
  else
   some (true,())
def td (d:Int×aK×aq×G):N ((Int×aK×aq×G)⊕((Bool×G)⊕G)):=
 let t0:=(decide (d.1<((d.2.2.1.length):Int)))
 bif t0 then
  bif decide (0<=d.1)&&decide (d.1<(d.2.2.1.length:Int)) then
   let t1:=(d.2.2.1.getD (d.1.toNat) ([],([],())))
   match nu (d.2.1,t1,()) with
   |none=>none
   |some aJ=>
    bif !aJ.1 then
     some (.inr (.inl (false,())))
    else
     some (.inl ((i64.wrap (d.1+1)),d.2.1,d.2.2.1,()))
  else none
 else
  some (.inr (.inr (())))
def JQ:=b4 td
def kc (d:bB×aK×G):N (Bool×G):=
 match nH (d.1,()) with
 |none=>none
 |some Q=>
  bif (decide ((List.length ([]:aq)+Q.1.length)*32<=bp)) then
   let t1:aq:=([]++Q.1)
   match jd (d.1,()) with
   |none=>none
   |some aJ=>
    bif decide ((t1.length+aJ.1.length)*32<=bp) then
     match JQ (0,d.2.1,(t1++aJ.1),()) with
     |none=>none
     |some (.inl z3)=>
      some (z3.1,())
     |some (.inr z3)=>
      some (true,())
    else none
  else none
def ym (d:Int×Int×Bool×aK×cG×cG×G):N (KL⊕((cG×G)⊕G)):=
 bif d.2.2.1 then
  bif decide (0<=d.2.1)&&decide (d.2.1<(d.2.2.2.2.2.1.length:Int)) then
   let t0:=(d.2.2.2.2.2.1.getD (d.2.1.toNat) (0,([],([],(([],([],())),([],([],(0,()))))))))
   match kc (t0,d.2.2.2.1,()) with
   |none=>none
   |some ah=>
    bif ah.1 then
     bif decide (0<=d.2.1)&&decide (d.2.1<(d.2.2.2.2.2.1.length:Int)) then
      let t2:=(d.2.2.2.2.2.1.getD (d.2.1.toNat) (0,([],([],(([],([],())),([],([],(0,()))))))))
      bif (decide ((d.2.2.2.2.1.length+List.length ([t2]:cG))*112<=bp)) then
       let t3:cG:=(d.2.2.2.2.1++([t2]:cG))
       some (.inl (d.1,(i64.wrap (d.2.1+1)),d.2.2.2.1,t3,d.2.2.2.2.2.1,()))
      else none
     else none
    else
     some (.inl (d.1,(i64.wrap (d.2.1+1)),d.2.2.2.1,d.2.2.2.2.1,d.2.2.2.2.2.1,()))
  else none
 else
  some (.inr (.inl (d.2.2.2.2.1,())))
def vC (d:KL):N (KL⊕((cG×G)⊕G)):=
 let t0:=(decide (d.2.1<((d.2.2.2.2.1.length):Int)))
 bif t0 then
  let t1:=(decide ((((d.2.2.2.1.length):Int):Int)<d.1))
  ym (d.1,d.2.1,t1,d.2.2.1,d.2.2.2.1,d.2.2.2.2.1,())
 else
  ym (d.1,d.2.1,false,d.2.2.1,d.2.2.2.1,d.2.2.2.2.1,())
def Ta:=b4 vC
def vO (d:(List n7)×aK×Int×G):N (cG×G):=
 match Fx (d.1,(i64.wrap (3*d.2.2.1)),()) with
 |none=>none
 |some Q=>
  match Ta (d.2.2.1,0,d.2.1,[],Q.1,()) with
  |none=>none
  |some (.inl aG)=>
   some (aG.1,())
  |some (.inr aG)=>
   none
def SX (dt:mG->N (fi×G)) (d:aj×(List bc)×Int×M×Bool×bZ×aK×e4×cN×Int×bc×G):N (ED⊕(EE⊕G)):=
 bif d.2.2.2.2.1 then
  bif (decide ((d.2.2.2.2.2.2.2.2.2.2.1.length+List.length ([d.2.2.2.1]:bc))*16<=bp)) then
   let t0:bc:=(d.2.2.2.2.2.2.2.2.2.2.1++([d.2.2.2.1]:bc))
   some (.inl (d.1,d.2.1,(i64.wrap (d.2.2.1+1)),d.2.2.2.2.2.1,d.2.2.2.2.2.2.1,d.2.2.2.2.2.2.2.1,d.2.2.2.2.2.2.2.2.1,d.2.2.2.2.2.2.2.2.2.1,t0,()))
  else none
 else
  some (.inl (d.1,d.2.1,(i64.wrap (d.2.2.1+1)),d.2.2.2.2.2.1,d.2.2.2.2.2.2.1,d.2.2.2.2.2.2.2.1,d.2.2.2.2.2.2.2.2.1,d.2.2.2.2.2.2.2.2.2.1,d.2.2.2.2.2.2.2.2.2.2.1,()))
def yE (dt:mG->N (fi×G)) (d:ED):N (ED⊕(EE⊕G)):=
 bif decide ((0:Int)<(d.2.1.length:Int)) then
  let t0:=(d.2.1.getD 0 [])
  let t1:=(decide (d.2.2.1<((t0.length):Int)))
  bif t1 then
   bif decide ((0:Int)<(d.2.1.length:Int)) then
    let t2:=(d.2.1.getD 0 [])
    bif decide (0<=d.2.2.1)&&decide (d.2.2.1<(t2.length:Int)) then
     let t3:=(t2.getD (d.2.2.1.toNat) [])
     let t4:=(!(Op.bytesLess t3 d.2.2.2.2.1.1||decide ((t3:M)=d.2.2.2.2.1.1)))
     bif t4 then
      match At (d.2.2.2.2.1,t3,()) with
      |none=>none
      |some fX=>
       SX dt (d.1,d.2.1,d.2.2.1,t3,fX.1,d.2.2.2.1,d.2.2.2.2.1,d.2.2.2.2.2.1,d.2.2.2.2.2.2.1,d.2.2.2.2.2.2.2.1,d.2.2.2.2.2.2.2.2.1,())
     else
      SX dt (d.1,d.2.1,d.2.2.1,t3,false,d.2.2.2.1,d.2.2.2.2.1,d.2.2.2.2.2.1,d.2.2.2.2.2.2.1,d.2.2.2.2.2.2.2.1,d.2.2.2.2.2.2.2.2.1,())
    else none
   else none
  else
   some (.inr (.inl (d.1,d.2.1,d.2.2.2.1,d.2.2.2.2.1,d.2.2.2.2.2.1,d.2.2.2.2.2.2.1,d.2.2.2.2.2.2.2.1,d.2.2.2.2.2.2.2.2.1,())))
 else none
def Ju (dt:mG->N (fi×G)) (d:ED):N (EE⊕G):=b4 (yE dt) d
def vG (dt:mG->N (fi×G)) (d:Kz):N (Kz⊕((bZ×aK×e4×cN×Int×aj×cG×bc×dR×hH×G)⊕G)):=
 let t0:Int:=((d.2.2.2.2.2.2.2.2.2.2.1.length):Int)
 bif decide (d.2.2.1<t0) then
  bif decide (0<=d.2.2.1)&&decide (d.2.2.1<(d.2.2.2.2.2.2.2.2.2.2.1.length:Int)) then
   let t1:=(d.2.2.2.2.2.2.2.2.2.2.1.getD (d.2.2.1.toNat) ([],([],())))
   bif (decide ((1:Int)<=(d.2.1.length:Int))&&decide (((d.2.1.length:Int):Int)<=(d.2.1.length:Int))) then
    let t2:=(List.drop (Int.toNat 1) (List.take (Int.toNat (d.2.1.length:Int)) d.2.1))
    match dt (d.2.2.2.1,d.1,t1,t2,d.2.2.2.2.2.1,()) with
    |none=>none
    |some bR=>
     match zu (bR.1.1,bR.1.2.1,()) with
     |none=>none
     |some cB=>
      bif (decide ((d.2.2.2.2.2.2.2.2.2.2.2.2.1.length+List.length ([bR.1.2.1]:dR))*8<=bp)) then
       let t5:dR:=(d.2.2.2.2.2.2.2.2.2.2.2.2.1++([bR.1.2.1]:dR))
       match m4 (cB.1,()) with
       |none=>none
       |some jn=>
        bif (decide ((d.2.2.2.2.2.2.2.2.2.2.2.2.2.1.length+List.length ([jn.1]:hH))*32<=bp)) then
         let t7:hH:=(d.2.2.2.2.2.2.2.2.2.2.2.2.2.1++([jn.1]:hH))
         some (.inl (d.1,d.2.1,(i64.wrap (d.2.2.1+1)),bR.1.1,d.2.2.2.2.1,d.2.2.2.2.2.1,d.2.2.2.2.2.2.1,d.2.2.2.2.2.2.2.1,d.2.2.2.2.2.2.2.2.1,d.2.2.2.2.2.2.2.2.2.1,d.2.2.2.2.2.2.2.2.2.2.1,d.2.2.2.2.2.2.2.2.2.2.2.1,t5,t7,()))
        else none
      else none
   else none
  else none
 else
  some (.inr (.inl (d.2.2.2.1,d.2.2.2.2.1,d.2.2.2.2.2.1,d.2.2.2.2.2.2.1,d.2.2.2.2.2.2.2.1,d.2.2.2.2.2.2.2.2.1,d.2.2.2.2.2.2.2.2.2.1,d.2.2.2.2.2.2.2.2.2.2.2.1,d.2.2.2.2.2.2.2.2.2.2.2.2.1,d.2.2.2.2.2.2.2.2.2.2.2.2.2.1,())))
def Jv (dt:mG->N (fi×G)) (d:Kz):N ((bZ×aK×e4×cN×Int×aj×cG×bc×dR×hH×G)⊕G):=b4 (vG dt) d
def yF (dt:mG->N (fi×G)) (d:Kt):N (Kt⊕((cN×Int×qf×bZ×G)⊕G)):=
 let t0:=(decide (d.1<((d.2.2.2.2.2.2.2.1.length):Int)))
 bif t0 then
  bif decide (0<=d.1)&&decide (d.1<(d.2.2.2.2.2.2.2.1.length:Int)) then
   let t1:=(d.2.2.2.2.2.2.2.1.getD (d.1.toNat) 0)
   match zp (d.2.2.2.2.2.1,t1,()) with
   |none=>none
   |some aJ=>
    some (.inl ((i64.wrap (d.1+1)),d.2.1,d.2.2.1,d.2.2.2.1,d.2.2.2.2.1,aJ.1,d.2.2.2.2.2.2.1,d.2.2.2.2.2.2.2.1,d.2.2.2.2.2.2.2.2.1,d.2.2.2.2.2.2.2.2.2.1,()))
  else none
 else
  some (.inr (.inl (d.2.1,d.2.2.1,d.2.2.2.2.1,d.2.2.2.2.2.1,())))
def Jw (dt:mG->N (fi×G)) (d:Kt):N ((cN×Int×qf×bZ×G)⊕G):=b4 (yF dt) d
def vH (dt:mG->N (fi×G)) (d:bZ×cN×Int×aj×bc×dR×hH×cG×G):N (fi×G):=
 match tR (d.1,(d.2.2.2.1,(d.2.2.2.2.1,(d.2.2.2.2.2.1,(d.2.2.2.2.2.2.1,(d.2.2.2.2.2.2.2.1,()))))),()) with
 |none=>none
 |some Q=>
  match Jw dt (0,d.2.1,d.2.2.1,d.2.2.2.1,Q.1,Q.1.1,d.2.2.2.2.1,d.2.2.2.2.2.1,d.2.2.2.2.2.2.1,d.2.2.2.2.2.2.2.1,()) with
  |none=>none
  |some (.inl aG)=>
   some ((aG.2.2.2.1,(aG.2.2.1.2.1,())),())
  |some (.inr aG)=>
   none
def Dn (dt:mG->N (fi×G)) (d:Int×bZ×aK×e4×cN×Int×aj×cG×bc×dR×hH×G):N (fi×G):=
 bif decide (0<=d.1)&&decide (d.1<4) then
  bif (Nat.beq (d.1.toNat) 3) then
   match vO (d.2.2.2.1.2.1.2.2.2.1,d.2.2.1,5,()) with
   |none=>none
   |some Q=>
    vH dt (d.2.1,d.2.2.2.2.1,d.2.2.2.2.2.1,d.2.2.2.2.2.2.1,d.2.2.2.2.2.2.2.2.1,d.2.2.2.2.2.2.2.2.2.1,d.2.2.2.2.2.2.2.2.2.2.1,Q.1,())
  else
   bif (Nat.beq (d.1.toNat) 2) then
    match vO (d.2.2.2.1.2.1.2.2.1,d.2.2.1,5,()) with
    |none=>none
    |some Q=>
     vH dt (d.2.1,d.2.2.2.2.1,d.2.2.2.2.2.1,d.2.2.2.2.2.2.1,d.2.2.2.2.2.2.2.2.1,d.2.2.2.2.2.2.2.2.2.1,d.2.2.2.2.2.2.2.2.2.2.1,Q.1,())
   else
    bif (Nat.beq (d.1.toNat) 1) then
     match vO (d.2.2.2.1.2.1.2.1,d.2.2.1,5,()) with
     |none=>none
     |some Q=>
      vH dt (d.2.1,d.2.2.2.2.1,d.2.2.2.2.2.1,d.2.2.2.2.2.2.1,d.2.2.2.2.2.2.2.2.1,d.2.2.2.2.2.2.2.2.2.1,d.2.2.2.2.2.2.2.2.2.2.1,Q.1,())
    else
     bif (Nat.beq (d.1.toNat) 0) then
      match vO (d.2.2.2.1.2.1.1,d.2.2.1,5,()) with
      |none=>none
      |some Q=>
       vH dt (d.2.1,d.2.2.2.2.1,d.2.2.2.2.2.1,d.2.2.2.2.2.2.1,d.2.2.2.2.2.2.2.2.1,d.2.2.2.2.2.2.2.2.2.1,d.2.2.2.2.2.2.2.2.2.2.1,Q.1,())
     else none
 else none
def Jt (dt:mG->N (fi×G)) (d:EE):N (fi×G):=
 let t0:=(decide ((((d.2.1.length):Int):Int)=0))
 bif t0 then
  match E9 (d.1,d.2.2.2.1,()) with
  |none=>none
  |some ah=>
   match tR (d.2.2.1,(ah.1,(d.2.2.2.2.2.2.2.1,([],([],([],()))))),()) with
   |none=>none
   |some aJ=>
    some ((aJ.1.1,(aJ.1.2.1,())),())
 else
  let t1:=(i64.wrap (((d.2.2.2.2.2.2.2.1.length):Int)+1))
  bif (decide (0<=t1)&&decide (t1<=t1)&&decide (t1*8<=(bp:Int))) then
   match El ((([]:aj),(d.2.2.2.2.2.2.2.1,((List.replicate (t1.toNat) (0:Int)),(([]:hH),(([]:cG),()))))),d.2.2.2.1,()) with
   |none=>none
   |some aJ=>
    match Jv dt (d.1,d.2.1,0,d.2.2.1,d.2.2.2.1,d.2.2.2.2.1,d.2.2.2.2.2.1,d.2.2.2.2.2.2.1,[],[],aJ.1,d.2.2.2.2.2.2.2.1,[],[],()) with
    |none=>none
    |some (.inl z3)=>
     let t4:=(!(aB.eqb ac z3.2.1 ([],([],()))))
     bif t4 then
      let t5:Int:=(Int.tmod ((z3.2.1.1.length):Int) 3)
      Dn dt ((i64.wrap (1+t5)),z3.1,z3.2.1,z3.2.2.1,z3.2.2.2.1,z3.2.2.2.2.1,z3.2.2.2.2.2.1,z3.2.2.2.2.2.2.1,z3.2.2.2.2.2.2.2.1,z3.2.2.2.2.2.2.2.2.1,z3.2.2.2.2.2.2.2.2.2.1,())
     else
      Dn dt (0,z3.1,z3.2.1,z3.2.2.1,z3.2.2.2.1,z3.2.2.2.2.1,z3.2.2.2.2.2.1,z3.2.2.2.2.2.2.1,z3.2.2.2.2.2.2.2.1,z3.2.2.2.2.2.2.2.2.1,z3.2.2.2.2.2.2.2.2.2.1,())
    |some (.inr z3)=>
     none
  else none
def vB (dt:mG->N (fi×G)) (d:mG):N (fi×G):=
 let t0:=(decide ((((d.2.2.2.1.length):Int):Int)>0))
 bif t0 then
  match Ju dt (d.2.1,d.2.2.2.1,0,d.1,d.2.2.1,d.2.2.2.2.1,[],0,[],()) with
  |none=>none
  |some (.inl aG)=>
   Jt dt (aG.1,aG.2.1,aG.2.2.1,aG.2.2.2.1,aG.2.2.2.2.1,aG.2.2.2.2.2.1,aG.2.2.2.2.2.2.1,aG.2.2.2.2.2.2.2.1,())
  |some (.inr aG)=>
   none
 else
  Jt dt (d.2.1,d.2.2.2.1,d.1,d.2.2.1,d.2.2.2.2.1,[],0,[],())
def mt:Nat->mG->N (fi×G)
 |0,_=>none
 |n+1,d=>vB (mt n) d
def Fc (d:mG):N (fi×G):=mt kZ d
def Fz (d:e4×G):N (c4×G):=
 match Aj (d.1.1,()) with
 |none=>none
 |some Q=>
  let t1:=i64.wrap (Int.tmod d.1.2.2.1 4)
  bif (decide (0<=t1)&&decide (t1<(List.length ([[],([([([97,47,98,47]:M),([98,47]:M),([99,47]:M)]:bc)]:List bc),([([([98,47]:M)]:bc),([([97,47,2]:M),([97,47,98,47]:M),([99,47]:M)]:bc)]:List bc),([([([97,47,98,47]:M),([98,47]:M)]:bc),([([97,47,98,47,2]:M),([99,47]:M),([100,47]:M)]:bc)]:List bc)]:List (List bc)):Int))) then
   let t2:=(List.getD ([[],([([([97,47,98,47]:M),([98,47]:M),([99,47]:M)]:bc)]:List bc),([([([98,47]:M)]:bc),([([97,47,2]:M),([97,47,98,47]:M),([99,47]:M)]:bc)]:List bc),([([([97,47,98,47]:M),([98,47]:M)]:bc),([([97,47,98,47,2]:M),([99,47]:M),([100,47]:M)]:bc)]:List bc)]:List (List bc)) (t1.toNat) [])
   match Fc (([],()),Q.1,([],([],())),t2,d.1,()) with
   |none=>none
   |some bR=>
    let t4:=(IntKind.u8.wrap (Int.tdiv d.1.2.2.1 4))
    let t5:=i64.wrap (Int.tmod t4 4)
    let t6:=(IntKind.u8.wrap (Int.tdiv d.1.2.2.1 16))
    let t7:=i64.wrap (Int.tmod t6 3)
    let t8:=(IntKind.u8.wrap (Int.tdiv d.1.2.2.1 64))
    let t9:=i64.wrap (1+(i64.wrap t8))
    some ((bR.1.1,(bR.1.2.1,(((i64.wrap (2+t5)),((i64.wrap (2+t7)),(t9,()))),()))),())
  else none
def qG (d:hi):N (Bool×G):=
 bif decide (d.2.1<=d.1) then
  some ((decide (d.1<=d.2.2.1)),())
 else
  some (false,())
def L2 (d:bB×G):N (Bool×G):=
 match qG (((d.1.2.1.length):Int),1,65535,()) with
 |none=>none
 |some Q=>
  bif Q.1 then
   let t1:=(decide ((((d.1.2.2.1.length):Int):Int)<=64))
   bif t1 then
    match qG (d.1.2.2.2.2.2.2.1,0,1000000000,()) with
    |none=>none
    |some aJ=>
     some (aJ.1,())
   else
    some (false,())
  else
   some (false,())
def MG (d:bB×G):N (bB×G):=
 some ((d.1.1,(d.1.2.1,(d.1.2.2.1,(([],([],())),([],([],(d.1.2.2.2.2.2.2.1,()))))))),())
def LX (d:bB×G):N (Bool×G):=
 match qG (((d.1.2.1.length):Int),1,65535,()) with
 |none=>none
 |some Q=>
  some (Q.1,())
def ME (d:bB×G):N (bB×G):=
 some ((d.1.1,(d.1.2.1,([],(([],([],())),([],([],(0,()))))))),())
def AE (d:aK×G):N (Bool×G):=
 match k8 (d.1,()) with
 |none=>none
 |some Q=>
  bif !Q.1 then
   let t1:Int:=(if (((d.1.1.length):Int):Int)<((d.1.2.1.length):Int) then ((d.1.2.1.length):Int) else ((d.1.1.length):Int))
   some ((decide (t1<=65535)),())
  else
   some (false,())
def K3 (d:bB×G):N (Bool×G):=
 match AE (d.1.2.2.2.1,()) with
 |none=>none
 |some Q=>
  some (Q.1,())
def LY (d:bB×G):N (bB×G):=
 some ((d.1.1,([],([],(d.1.2.2.2.1,([],([],(0,()))))))),())
def Ar (d:aK):N (Bool×G):=
 match qG (((d.1.length):Int),1,200,()) with
 |none=>none
 |some Q=>
  bif Q.1 then
   match qG (((d.2.1.length):Int),1,200,()) with
   |none=>none
   |some ah=>
    bif ah.1 then
     match vy (d.1,d.2.1,()) with
     |none=>none
     |some aJ=>
      bif !aJ.1 then
       match vy (d.2.1,d.1,()) with
       |none=>none
       |some bR=>
        some ((!bR.1),())
      else
       some (false,())
    else
     some (false,())
  else
   some (false,())
def K5 (d:bB×G):N (Bool×G):=
 match Ar (d.1.2.2.2.2.1,d.1.2.2.2.2.2.1,()) with
 |none=>none
 |some Q=>
  some (Q.1,())
def LZ (d:bB×G):N (bB×G):=
 some ((d.1.1,([],([],(([],([],())),(d.1.2.2.2.2.1,(d.1.2.2.2.2.2.1,(0,()))))))),())
def To (d:bB×G):N (Bool×G):=
 match Ar (d.1.2.2.2.2.1,d.1.2.2.2.2.2.1,()) with
 |none=>none
 |some Q=>
  some (Q.1,())
def KZ (d:bB×G):N (bB×G):=
 some ((d.1.1,([],([],(([],([],())),(d.1.2.2.2.2.1,(d.1.2.2.2.2.2.1,(0,()))))))),())
def Tt (d:bB×G):N (Bool×G):=
 match AE (d.1.2.2.2.1,()) with
 |none=>none
 |some Q=>
  bif Q.1 then
   match qG (d.1.2.2.2.2.2.2.1,0,1000000000,()) with
   |none=>none
   |some ah=>
    some (ah.1,())
  else
   some (false,())
def K7 (d:bB×G):N (bB×G):=
 some ((d.1.1,([],([],(d.1.2.2.2.1,([],([],(d.1.2.2.2.2.2.2.1,()))))))),())
def qm (d:bB×G):N (Bool×G):=
 bif decide (d.1.1=1) then
  match L2 (d.1,()) with
  |none=>none
  |some Q=>
   bif Q.1 then
    match MG (d.1,()) with
    |none=>none
    |some ah=>
     let t2:=(aB.eqb dx ah.1 d.1)
     some (t2,())
   else
    some (false,())
 else
  bif decide (d.1.1=2) then
   match LX (d.1,()) with
   |none=>none
   |some Q=>
    bif Q.1 then
     match ME (d.1,()) with
     |none=>none
     |some ah=>
      let t2:=(aB.eqb dx ah.1 d.1)
      some (t2,())
    else
     some (false,())
  else
   bif decide (d.1.1=3) then
    match K3 (d.1,()) with
    |none=>none
    |some Q=>
     bif Q.1 then
      match LY (d.1,()) with
      |none=>none
      |some ah=>
       let t2:=(aB.eqb dx ah.1 d.1)
       some (t2,())
     else
      some (false,())
   else
    bif decide (d.1.1=4) then
     match K5 (d.1,()) with
     |none=>none
     |some Q=>
      bif Q.1 then
       match LZ (d.1,()) with
       |none=>none
       |some ah=>
        let t2:=(aB.eqb dx ah.1 d.1)
        some (t2,())
      else
       some (false,())
    else
     bif decide (d.1.1=5) then
      match To (d.1,()) with
      |none=>none
      |some Q=>
       bif Q.1 then
        match KZ (d.1,()) with
        |none=>none
        |some ah=>
         let t2:=(aB.eqb dx ah.1 d.1)
         some (t2,())
       else
        some (false,())
     else
      bif decide (d.1.1=6) then
       match Tt (d.1,()) with
       |none=>none
       |some Q=>
        bif Q.1 then
         match K7 (d.1,()) with
         |none=>none
         |some ah=>
          let t2:=(aB.eqb dx ah.1 d.1)
          some (t2,())
        else
         some (false,())
      else
       some (false,())
def co (d:aj×G):N (aj×G):=bif (decide ((List.length ([]:aj)+d.1.length)*40<=bp)) then some (d.1,()) else none
def HF (d:Int×aj×aj×G):N zQ:=Bj 40 d
def FX (d:aj×b5×G):N (aj×G):=
 match wb (d.1,d.2.1.1,()) with
 |none=>none
 |some Q=>
  match co (d.1,()) with
  |none=>none
  |some ah=>
   bif Q.2.1 then
    bif decide (0<=Q.1)&&decide (Q.1<(ah.1.length:Int)) then
     some ((List.set ah.1 (Q.1.toNat) d.2.1),())
    else none
   else
    match HF (Q.1,ah.1,([d.2.1]:aj),()) with
    |none=>none
    |some aJ=>
     some (aJ.2.1,())
def L0 (d:wR):N (aj×G):=
 match FX (d.2.1,(d.1.2.1,(d.1.2.2.1,(d.1.2.2.2.2.2.2.1,()))),()) with
 |none=>none
 |some Q=>
  some (Q.1,())
def DW (d:wL):N kK:=
 match k8 (d.2.1,()) with
 |none=>none
 |some Q=>
  bif Q.1 then
   some (0,0,())
  else
   match wb (d.1,d.2.1.1,()) with
   |none=>none
   |some ah=>
    let t2:=(!decide ((d.2.1.2.1:M)=[]))
    bif t2 then
     match wb (d.1,d.2.1.2.1,()) with
     |none=>none
     |some bR=>
      some (ah.1,bR.1,())
    else
     some (ah.1,((d.1.length):Int),())
def HJ (d:Int×G):N (aj×G):=
 bif decide (d.1<0) then
  none
 else
  let t0:=i64.wrap (0-0)
  let t1:=(decide (((i64.wrap (d.1-t0)):Int)>0))
  bif t1 then
   bif (decide (0<(i64.wrap (d.1-t0)))&&decide ((i64.wrap (d.1-t0))*40<=(bp:Int))) then
    bif (decide (((0:Int):Int)<=(List.length (List.replicate (Int.toNat (i64.wrap (d.1-t0))) (([]:M),(([]:M),((0:Int),())))):Int))) then
     let t2:=(List.take 0 (List.replicate (Int.toNat (i64.wrap (d.1-t0))) (([]:M),(([]:M),((0:Int),())))))
     some (t2,())
    else none
   else none
  else
   some ([],())
def qE (d:TP):N (TP⊕(((List aj)×Int×G)⊕G)):=
 let t0:=decide (d.2.2.2.2.1<d.2.2.2.1)
 bif t0 then
  bif decide (0<=d.2.2.2.2.1)&&decide (d.2.2.2.2.1<(d.2.2.1.length:Int)) then
   let t1:=(d.2.2.1.getD (d.2.2.2.2.1.toNat) [])
   let t2:=(i64.wrap (d.2.1+((t1.length):Int)))
   bif decide (t2<0) then
    none
   else
    let t3:=i64.wrap (d.2.2.2.2.1+1)
    some (.inl (d.1,t2,d.2.2.1,d.2.2.2.1,t3,()))
  else none
 else
  some (.inr (.inl (d.1,d.2.1,())))
def RF:=b4 qE
def qS (d:(List aj)×Int×Int×aj×G):N (((List aj)×Int×Int×aj×G)⊕((aj×G)⊕G)):=
 bif decide (d.2.2.1<d.2.1) then
  bif decide (0<=d.2.2.1)&&decide (d.2.2.1<(d.1.length:Int)) then
   let t0:=(d.1.getD (d.2.2.1.toNat) [])
   bif decide ((d.2.2.2.1.length+t0.length)*40<=bp) then
    some (.inl (d.1,d.2.1,(i64.wrap (d.2.2.1+1)),(d.2.2.2.1++t0),()))
   else none
  else none
 else
  some (.inr (.inl (d.2.2.2.1,())))
def RG:=b4 qS
def HE (d:(List aj)×G):N (aj×G):=
 match RF (d.1,0,d.1,((d.1.length):Int),0,()) with
 |none=>none
 |some (.inl z0)=>
  match HJ (z0.2.1,()) with
  |none=>none
  |some ah=>
   match RG (z0.1,((z0.1.length):Int),0,ah.1,()) with
   |none=>none
   |some (.inl z2)=>
    some (z2.1,())
   |some (.inr z2)=>
    none
 |some (.inr z0)=>
  none
def tG (d:wL):N (aj×G):=
 match DW (d.1,d.2.1,()) with
 |none=>none
 |some Q=>
  bif decide ((0:Int)<=Q.1)&&decide (Q.1<=(d.1.length:Int)) then
   let t1:=(List.drop 0 (List.take (Q.1.toNat) d.1))
   bif (decide (0<=Q.2.1)&&decide (Q.2.1<=(d.1.length:Int))&&decide (((d.1.length:Int):Int)<=(d.1.length:Int))) then
    let t2:=(List.drop (Q.2.1.toNat) (List.take (Int.toNat (d.1.length:Int)) d.1))
    match HE (([t1,t2]:List aj),()) with
    |none=>none
    |some bR=>
     some (bR.1,())
   else none
  else none
def Od (d:EL):N (aj×G):=
 match qt (d.2.1,()) with
 |none=>none
 |some Q=>
  match tG (d.1,Q.1,()) with
  |none=>none
  |some ah=>
   some (ah.1,())
def LV (d:wR):N (aj×G):=
 match Od (d.2.1,d.1.2.1,()) with
 |none=>none
 |some Q=>
  some (Q.1,())
def K1 (d:wR):N (aj×G):=
 match tG (d.2.1,d.1.2.2.2.1,()) with
 |none=>none
 |some Q=>
  some (Q.1,())
def Fh (d:wL):N (aj×G):=
 match DW (d.1,d.2.1,()) with
 |none=>none
 |some Q=>
  bif (decide (0<=Q.1)&&decide (Q.1<=Q.2.1)&&decide (Q.2.1<=(d.1.length:Int))&&decide (Q.2.1=Q.2.1)) then
   let t1:=(List.drop (Q.1.toNat) (List.take (Q.2.1.toNat) d.1))
   some (t1,())
  else none
def yV (d:Um):N (Um⊕((aj×G)⊕G)):=
 bif decide (d.2.2.2.1<d.2.2.1) then
  bif decide (0<=d.2.2.2.1)&&decide (d.2.2.2.1<(d.2.2.2.2.1.length:Int)) then
   let t0:=(d.2.2.2.2.1.getD (d.2.2.2.1.toNat) ([],([],(0,()))))
   match tF (t0.1,d.1,d.2.1,()) with
   |none=>none
   |some ah=>
    bif decide (0<=d.2.2.2.1)&&decide (d.2.2.2.1<(d.2.2.2.2.1.length:Int)) then
     let t2:=(List.set d.2.2.2.2.1 (d.2.2.2.1.toNat) (ah.1,(d.2.2.2.2.1.getD (d.2.2.2.1.toNat) ([],([],(0,())))).2))
     let t3:=i64.wrap (d.2.2.2.1+1)
     some (.inl (d.1,d.2.1,d.2.2.1,t3,t2,()))
    else none
  else none
 else
  some (.inr (.inl (d.2.2.2.2.1,())))
def MF:=b4 yV
def FN (d:aj×M×M×G):N (aj×G):=
 match mr (d.2.1,()) with
 |none=>none
 |some Q=>
  match Fh (d.1,Q.1,()) with
  |none=>none
  |some ah=>
   match co (ah.1,()) with
   |none=>none
   |some aJ=>
    match MF (d.2.1,d.2.2.1,((aJ.1.length):Int),0,aJ.1,()) with
    |none=>none
    |some (.inl z3)=>
     some (z3.1,())
    |some (.inr z3)=>
     none
def SZ (d:r5):N (r5⊕(r5⊕G)):=
 bif decide ((0:Int)<(d.2.1.length:Int)) then
  let t0:=(d.2.1.getD 0 ([],([],(0,()))))
  bif (decide ((d.2.2.1.length+List.length ([t0]:aj))*40<=bp)) then
   let t1:aj:=(d.2.2.1++([t0]:aj))
   bif (decide ((1:Int)<=(d.2.1.length:Int))&&decide (((d.2.1.length:Int):Int)<=(d.2.1.length:Int))) then
    let t2:=(List.drop (Int.toNat 1) (List.take (Int.toNat (d.2.1.length:Int)) d.2.1))
    some (.inl (d.1,t2,t1,()))
   else none
  else none
 else none
def C6 (d:aj×aj×Bool×aj×G):N (r5⊕(r5⊕G)):=
 bif d.2.2.1 then
  some (.inr (.inl (d.1,d.2.1,d.2.2.2.1,())))
 else
  bif decide ((0:Int)<(d.1.length:Int)) then
   let t0:=(d.1.getD 0 ([],([],(0,()))))
   bif decide ((0:Int)<(d.2.1.length:Int)) then
    let t1:=(d.2.1.getD 0 ([],([],(0,()))))
    bif (Op.bytesLess t0.1 t1.1) then
     bif decide ((0:Int)<(d.1.length:Int)) then
      let t2:=(d.1.getD 0 ([],([],(0,()))))
      bif (decide ((d.2.2.2.1.length+List.length ([t2]:aj))*40<=bp)) then
       let t3:aj:=(d.2.2.2.1++([t2]:aj))
       bif (decide ((1:Int)<=(d.1.length:Int))&&decide (((d.1.length:Int):Int)<=(d.1.length:Int))) then
        let t4:=(List.drop (Int.toNat 1) (List.take (Int.toNat (d.1.length:Int)) d.1))
        some (.inl (t4,d.2.1,t3,()))
       else none
      else none
     else none
    else
     bif decide ((0:Int)<(d.1.length:Int)) then
      let t2:=(d.1.getD 0 ([],([],(0,()))))
      bif decide ((0:Int)<(d.2.1.length:Int)) then
       let t3:=(d.2.1.getD 0 ([],([],(0,()))))
       bif decide ((t2.1:M)=t3.1) then
        bif (decide ((1:Int)<=(d.1.length:Int))&&decide (((d.1.length:Int):Int)<=(d.1.length:Int))) then
         let t4:=(List.drop (Int.toNat 1) (List.take (Int.toNat (d.1.length:Int)) d.1))
         SZ (t4,d.2.1,d.2.2.2.1,())
        else none
       else
        SZ (d.1,d.2.1,d.2.2.2.1,())
      else none
     else none
   else none
  else none
def yG (d:r5):N (r5⊕(r5⊕G)):=
 let t0:=(decide ((((d.1.length):Int):Int)=0))
 bif !t0 then
  let t1:=(decide ((((d.2.1.length):Int):Int)=0))
  C6 (d.1,d.2.1,t1,d.2.2.1,())
 else
  C6 (d.1,d.2.1,true,d.2.2.1,())
def LF:=b4 yG
def Fi (d:zQ):N (aj×G):=
 let t0:=(i64.wrap (((d.1.length):Int)+((d.2.1.length):Int)))
 bif (decide (0<=0)&&decide ((0:Int)<=t0)&&decide (t0*40<=(bp:Int))) then
  match LF (d.1,d.2.1,(List.replicate 0 (([]:M),(([]:M),((0:Int),())))),()) with
  |none=>none
  |some (.inl aG)=>
   bif decide ((aG.2.2.1.length+aG.1.length)*40<=bp) then
    bif (decide ((List.length (aG.2.2.1++aG.1)+aG.2.1.length)*40<=bp)) then
     some (((aG.2.2.1++aG.1)++aG.2.1),())
    else none
   else none
  |some (.inr aG)=>
   none
 else none
def De (d:wR):N (aj×G):=
 match mr (d.1.2.2.2.2.2.1,()) with
 |none=>none
 |some Q=>
  match tG (d.2.1,Q.1,()) with
  |none=>none
  |some ah=>
   match FN (d.2.1,d.1.2.2.2.2.1,d.1.2.2.2.2.2.1,()) with
   |none=>none
   |some aJ=>
    match Fi (ah.1,aJ.1,()) with
    |none=>none
    |some bR=>
     some (bR.1,())
def Jy (d:wR):N (aj×G):=
 match De (d.1,d.2.1,()) with
 |none=>none
 |some Q=>
  match mr (d.1.2.2.2.2.1,()) with
  |none=>none
  |some ah=>
   match tG (Q.1,ah.1,()) with
   |none=>none
   |some aJ=>
    some (aJ.1,())
def C2 (d:Int×Int×bB×aj×G):N ((Int×Int×bB×aj×G)⊕((aj×G)⊕G)):=
 bif decide (d.2.1<d.1) then
  bif decide (0<=d.2.1)&&decide (d.2.1<(d.2.2.2.1.length:Int)) then
   let t0:=(d.2.2.2.1.getD (d.2.1.toNat) ([],([],(0,()))))
   match pC (d.2.2.1.2.2.2.1,t0.1,()) with
   |none=>none
   |some ah=>
    bif ah.1 then
     bif decide (0<=d.2.1)&&decide (d.2.1<(d.2.2.2.1.length:Int)) then
      let t2:=(List.set d.2.2.2.1 (d.2.1.toNat) ((d.2.2.2.1.getD (d.2.1.toNat) ([],([],(0,())))).1,((d.2.2.2.1.getD (d.2.1.toNat) ([],([],(0,())))).2.1,(d.2.2.1.2.2.2.2.2.2.1,(d.2.2.2.1.getD (d.2.1.toNat) ([],([],(0,())))).2.2.2))))
      some (.inl (d.1,(i64.wrap (d.2.1+1)),d.2.2.1,t2,()))
     else none
    else
     some (.inl (d.1,(i64.wrap (d.2.1+1)),d.2.2.1,d.2.2.2.1,()))
  else none
 else
  some (.inr (.inl (d.2.2.2.1,())))
def SN:=b4 C2
def Tr (d:wR):N (aj×G):=
 match co (d.2.1,()) with
 |none=>none
 |some Q=>
  match SN (((Q.1.length):Int),0,d.1,Q.1,()) with
  |none=>none
  |some (.inl aG)=>
   some (aG.1,())
  |some (.inr aG)=>
   none
def rK (d:aj×bB×G):N (aj×G):=
 bif decide (d.2.1.1=1) then
  match L0 (d.2.1,d.1,()) with
  |none=>none
  |some Q=>
   some (Q.1,())
 else
  bif decide (d.2.1.1=2) then
   match LV (d.2.1,d.1,()) with
   |none=>none
   |some Q=>
    some (Q.1,())
  else
   bif decide (d.2.1.1=3) then
    match K1 (d.2.1,d.1,()) with
    |none=>none
    |some Q=>
     some (Q.1,())
   else
    bif decide (d.2.1.1=4) then
     match Jy (d.2.1,d.1,()) with
     |none=>none
     |some Q=>
      some (Q.1,())
    else
     bif decide (d.2.1.1=5) then
      match De (d.2.1,d.1,()) with
      |none=>none
      |some Q=>
       some (Q.1,())
     else
      bif decide (d.2.1.1=6) then
       match Tr (d.2.1,d.1,()) with
       |none=>none
       |some Q=>
        some (Q.1,())
      else
       some (d.1,())
def vP (d:cN×dR×cN×G):N ((cN×dR×cN×G)⊕((cN×cN×G)⊕G)):=
 let t0:=(decide ((((d.2.1.length):Int):Int)>0))
 bif t0 then
  let t1:=(i64.wrap (((d.2.1.length):Int)-1))
  bif decide (0<=t1)&&decide (t1<(d.2.1.length:Int)) then
   let t2:=(d.2.1.getD (t1.toNat) 0)
   let t3:=(i64.wrap (((d.2.1.length):Int)-1))
   bif decide ((0:Int)<=t3)&&decide (t3<=(d.2.1.length:Int)) then
    bif decide (0<=t2)&&decide (t2<(d.2.2.1.length:Int)) then
     let t4:=(d.2.2.1.getD (t2.toNat) (false,(false,(0,(([],([],([],([],([],()))))),())))))
     let t5:=i64.wrap (t4.2.2.1-1)
     let t6:=(List.set d.2.2.1 (t2.toNat) ((d.2.2.1.getD (t2.toNat) (false,(false,(0,(([],([],([],([],([],()))))),()))))).1,((d.2.2.1.getD (t2.toNat) (false,(false,(0,(([],([],([],([],([],()))))),()))))).2.1,(t5,(d.2.2.1.getD (t2.toNat) (false,(false,(0,(([],([],([],([],([],()))))),()))))).2.2.2))))
     let t7:=(t6.getD (t2.toNat) (false,(false,(0,(([],([],([],([],([],()))))),())))))
     bif decide (t7.2.2.1>0) then
      some (.inl (d.1,(List.take (t3.toNat) d.2.1),t6,()))
     else
      let t8:=(t6.getD (t2.toNat) (false,(false,(0,(([],([],([],([],([],()))))),())))))
      bif (decide ((List.length (List.take (t3.toNat) d.2.1)+t8.2.2.2.1.2.2.1.length)*8<=bp)) then
       let t9:=(List.take (t3.toNat) d.2.1++t8.2.2.2.1.2.2.1)
       let t10:=(List.set t6 (t2.toNat) (false,(false,(0,(([],([],([],([],([],()))))),())))))
       some (.inl (d.1,t9,t10,()))
      else none
    else none
   else none
  else none
 else
  some (.inr (.inl (d.1,d.2.2.1,())))
def MI:=b4 vP
def tQ (d:fi):N fi:=
 match rM (d.1,d.2.1,()) with
 |none=>none
 |some Q=>
  bif !Q.1 then
   some (d.1,110,())
  else
   match Ag (d.1,()) with
   |none=>none
   |some ah=>
    match MI ([],([d.2.1]:dR),ah.1,()) with
    |none=>none
    |some (.inl z2)=>
     some ((z2.2.1,()),0,())
    |some (.inr z2)=>
     none
def Im (d:cG×G):N (cG×G):=
 bif (decide (0<=0)&&decide ((0:Int)<=((d.1.length):Int))&&decide ((((d.1.length):Int):Int)<=(d.1.length:Int))&&decide ((((d.1.length):Int):Int)=((d.1.length):Int))) then
  let t0:=(List.drop 0 (List.take (Int.toNat ((d.1.length):Int)) d.1))
  some (t0,())
 else none
def qu (d:c4×bB×G):N ur:=
 match qm (d.2.1,()) with
 |none=>none
 |some Q=>
  bif !Q.1 then
   some (d.1,50,())
  else
   match kr (d.1.1,d.1.2.1,()) with
   |none=>none
   |some ah=>
    bif (!decide (ah.2.1=0)) then
     some (d.1,ah.2.1,())
    else
     match tT (ah.1,()) with
     |none=>none
     |some aJ=>
      bif aJ.1 then
       match rK (ah.1.1,d.2.1,()) with
       |none=>none
       |some bR=>
        match qs (d.1.1,(bR.1,(ah.1.2.1,(ah.1.2.2.1,(ah.1.2.2.2.1,(ah.1.2.2.2.2.1,()))))),()) with
        |none=>none
        |some cB=>
         bif (!decide (cB.2.2.1=0)) then
          some (d.1,cB.2.2.1,())
         else
          match tQ (cB.1,d.1.2.1,()) with
          |none=>none
          |some fX=>
           bif (!decide (fX.2.1=0)) then
            some (d.1,fX.2.1,())
           else
            some ((fX.1,(cB.2.1,(d.1.2.2.1,()))),0,())
      else
       match Im (ah.1.2.2.2.2.1,()) with
       |none=>none
       |some bR=>
        bif (decide (0<List.length ([d.2.1]:cG))&&decide ((bR.1.length+List.length ([d.2.1]:cG))*112<=bp)) then
         let t4:cG:=(bR.1++([d.2.1]:cG))
         match qs (d.1.1,(ah.1.1,(ah.1.2.1,(ah.1.2.2.1,(ah.1.2.2.2.1,(t4,()))))),()) with
         |none=>none
         |some fX=>
          bif (!decide (fX.2.2.1=0)) then
           some (d.1,fX.2.2.1,())
          else
           match tQ (fX.1,d.1.2.1,()) with
           |none=>none
           |some jn=>
            bif (!decide (jn.2.1=0)) then
             some (d.1,jn.2.1,())
            else
             some ((jn.1,(fX.2.1,(d.1.2.2.1,()))),0,())
        else none
def XJ (d:Int×c4×cZ×G):N ((Int×c4×cZ×G)⊕((Int×G)⊕G)):=
 match tT (d.2.2.1,()) with
 |none=>none
 |some Q=>
  bif !Q.1 then
   bif decide ((0:Int)<(d.2.2.1.2.2.1.length:Int)) then
    match kr (d.2.1.1,(d.2.2.1.2.2.1.getD 0 0),()) with
    |none=>none
    |some ah=>
     some (.inl ((i64.wrap (d.1+1)),d.2.1,ah.1,()))
   else none
  else
   some (.inr (.inl (d.1,())))
def XL:=b4 XJ
def Np (d:c4×G):N (Int×G):=
 match kr (d.1.1,d.1.2.1,()) with
 |none=>none
 |some Q=>
  match XL (1,d.1,Q.1,()) with
  |none=>none
  |some (.inl aG)=>
   some (aG.1,())
  |some (.inr aG)=>
   none
def M9 (d:G):N (c4×G):=
 match tR (([],()),(([(([97,47,120]:M),(([49]:M),(0,())))]:aj),([],([],([],([],()))))),()) with
 |none=>none
 |some Q=>
  match tR (Q.1.1,([],([],([],([],([],()))))),()) with
  |none=>none
  |some ah=>
   match tR (ah.1.1,([],(([([98,47]:M)]:bc),(([Q.1.2.1,ah.1.2.1]:dR),(([((0,(0,())),((0,(0,())),())),((0,(0,())),((0,(0,())),()))]:hH),(([(4,([],([],(([],([],())),(([97,47]:M),(([99,47]:M),(0,())))))))]:cG),()))))),()) with
   |none=>none
   |some aJ=>
    match zp (aJ.1.1,Q.1.2.1,()) with
    |none=>none
    |some bR=>
     match zp (bR.1,ah.1.2.1,()) with
     |none=>none
     |some cB=>
      some ((cB.1,(aJ.1.2.1,((2,(2,(1,()))),()))),())
def qV (d:Int×aK×aq×bZ×Int×G):N (bZ×Int×Int×aK×aq×G):=
 some (d.2.2.2.1,d.2.2.2.2.1,d.1,d.2.1,d.2.2.1,())
def HI (d:aq×G):N (aq×G):=bif (decide ((List.length ([]:aq)+d.1.length)*32<=bp)) then some (d.1,()) else none
def ci (d:l1):N (l1⊕((Int×aq×G)⊕(aq×G))):=
 bif decide (d.2.1<d.1) then
  bif decide (0<=d.2.1)&&decide (d.2.1<(d.2.2.1.length:Int)) then
   let t0:=(d.2.2.1.getD (d.2.1.toNat) ([],([],())))
   match k8 (t0,()) with
   |none=>none
   |some ah=>
    bif ah.1 then
     some (.inr (.inl (d.2.1,d.2.2.1,())))
    else
     some (.inl (d.1,(i64.wrap (d.2.1+1)),d.2.2.1,()))
  else none
 else
  some (.inr (.inr (d.2.2.1,())))
def PZ:=b4 ci
def xy (d:aq×G):N (Int×aq×G):=
 match PZ (((d.1.length):Int),0,d.1,()) with
 |none=>none
 |some (.inl z0)=>
  some (z0.1,z0.2.1,())
 |some (.inr z0)=>
  some ((-1:Int),z0.1,())
def xw (d:l1):N (l1⊕((Int×aq×G)⊕G)):=
 let t0:=(decide (d.2.1<((d.2.2.1.length):Int)))
 bif t0 then
  bif decide (0<=d.2.1)&&decide (d.2.1<(d.2.2.1.length:Int)) then
   let t1:=(d.2.2.1.getD (d.2.1.toNat) ([],([],())))
   match k8 (t1,()) with
   |none=>none
   |some aJ=>
    bif !aJ.1 then
     bif decide (0<=d.1)&&decide (d.1<(d.2.2.1.length:Int)) then
      some (.inl ((i64.wrap (d.1+1)),(i64.wrap (d.2.1+1)),(List.set d.2.2.1 (d.1.toNat) t1),()))
     else none
    else
     some (.inl (d.1,(i64.wrap (d.2.1+1)),d.2.2.1,()))
  else none
 else
  some (.inr (.inl (d.1,d.2.2.1,())))
def Qe:=b4 xw
def BD (d:aq×G):N (aq×G):=
 match xy (d.1,()) with
 |none=>none
 |some Q=>
  bif decide (Q.1=(-1:Int)) then
   some (Q.2.1,())
  else
   match Qe (Q.1,(i64.wrap (Q.1+1)),Q.2.1,()) with
   |none=>none
   |some (.inl aG)=>
    bif (decide (0<=aG.1)&&decide (aG.1<=(aG.2.1.length:Int))&&decide (((aG.2.1.length:Int):Int)<=(aG.2.1.length:Int))) then
     let t2:=(List.take (aG.1.toNat) aG.2.1++List.replicate ((Int.toNat (aG.2.1.length:Int))-(aG.1.toNat)) (([]:M),(([]:M),()))++List.drop ((aG.1.toNat)+((Int.toNat (aG.2.1.length:Int))-(aG.1.toNat))) aG.2.1)
     bif decide ((0:Int)<=aG.1)&&decide (aG.1<=(t2.length:Int)) then
      some ((List.take (aG.1.toNat) t2),())
     else none
    else none
   |some (.inr aG)=>
    none
def yp (d:kK):N (Int×G):=
 bif (decide (0<=(IntKind.u8.wrap d.1))&&decide (((IntKind.u8.wrap d.1):Int)<(List.length ([0,1,2,2,3,3,3,3,4,4,4,4,4,4,4,4,5,5,5,5,5,5,5,5,5,5,5,5,5,5,5,5,6,6,6,6,6,6,6,6,6,6,6,6,6,6,6,6,6,6,6,6,6,6,6,6,6,6,6,6,6,6,6,6,7,7,7,7,7,7,7,7,7,7,7,7,7,7,7,7,7,7,7,7,7,7,7,7,7,7,7,7,7,7,7,7,7,7,7,7,7,7,7,7,7,7,7,7,7,7,7,7,7,7,7,7,7,7,7,7,7,7,7,7,7,7,7,7,8,8,8,8,8,8,8,8,8,8,8,8,8,8,8,8,8,8,8,8,8,8,8,8,8,8,8,8,8,8,8,8,8,8,8,8,8,8,8,8,8,8,8,8,8,8,8,8,8,8,8,8,8,8,8,8,8,8,8,8,8,8,8,8,8,8,8,8,8,8,8,8,8,8,8,8,8,8,8,8,8,8,8,8,8,8,8,8,8,8,8,8,8,8,8,8,8,8,8,8,8,8,8,8,8,8,8,8,8,8,8,8,8,8,8,8,8,8,8,8,8,8,8,8,8,8,8,8]:M):Int))) then
  let t0:Int:=((List.getD ([0,1,2,2,3,3,3,3,4,4,4,4,4,4,4,4,5,5,5,5,5,5,5,5,5,5,5,5,5,5,5,5,6,6,6,6,6,6,6,6,6,6,6,6,6,6,6,6,6,6,6,6,6,6,6,6,6,6,6,6,6,6,6,6,7,7,7,7,7,7,7,7,7,7,7,7,7,7,7,7,7,7,7,7,7,7,7,7,7,7,7,7,7,7,7,7,7,7,7,7,7,7,7,7,7,7,7,7,7,7,7,7,7,7,7,7,7,7,7,7,7,7,7,7,7,7,7,7,8,8,8,8,8,8,8,8,8,8,8,8,8,8,8,8,8,8,8,8,8,8,8,8,8,8,8,8,8,8,8,8,8,8,8,8,8,8,8,8,8,8,8,8,8,8,8,8,8,8,8,8,8,8,8,8,8,8,8,8,8,8,8,8,8,8,8,8,8,8,8,8,8,8,8,8,8,8,8,8,8,8,8,8,8,8,8,8,8,8,8,8,8,8,8,8,8,8,8,8,8,8,8,8,8,8,8,8,8,8,8,8,8,8,8,8,8,8,8,8,8,8,8,8,8,8,8,8]:M) (Int.toNat (IntKind.u8.wrap d.1)) 0).toNat:Int)
  let t1:=i64.wrap (d.2.1+(i64.wrap t0))
  some (t1,())
 else none
def IF (d:kK):N (Int×G):=
 bif decide (d.1>=256) then
  let t0:Int:=(Int.fdiv d.1 (2^(min (Int.toNat 8) IntKind.u64.bits)))
  yp (t0,(i64.wrap (d.2.1+8)),())
 else
  yp (d.1,d.2.1,())
def yo (d:kK):N (Int×G):=
 bif decide (d.1>=65536) then
  let t0:Int:=(Int.fdiv d.1 (2^(min (Int.toNat 16) IntKind.u64.bits)))
  IF (t0,(i64.wrap (d.2.1+16)),())
 else
  IF (d.1,d.2.1,())
def Tm (d:Int×G):N (Int×G):=
 let t0:=decide (d.1>=4294967296)
 bif t0 then
  let t1:Int:=(Int.fdiv d.1 (2^(min (Int.toNat 32) IntKind.u64.bits)))
  yo (t1,32,())
 else
  yo (d.1,0,())
def yN (d:Int×G):N (Int×G):=
 match Tm (d.1,()) with
 |none=>none
 |some Q=>
  some (Q.1,())
def IN (d:aK):N (Int×G):=
 match vz (d.1,()) with
 |none=>none
 |some Q=>
  match vz (d.2.1,()) with
  |none=>none
  |some ah=>
   bif Q.1 then
    bif ah.1 then
     some (0,())
    else
     some ((-1:Int),())
   else
    bif ah.1 then
     some (1,())
    else
     bif (Op.bytesLess d.1 d.2.1) then
      some ((-1:Int),())
     else
      let t2:=(!(Op.bytesLess d.1 d.2.1||decide ((d.1:M)=d.2.1)))
      bif t2 then
       some (1,())
      else
       some (0,())
def k7 (d:uq):N (Int×G):=
 match IN (d.1.1,d.2.1.1,()) with
 |none=>none
 |some Q=>
  some (Q.1,())
def Br (d:Un):N (l0⊕(eP⊕G)):=
 bif d.2.2.2.2.1 then
  let t0:=i64.wrap (d.2.2.2.1-1)
  let t1:=i64.wrap (d.2.2.2.1-1)
  bif decide (0<=t1)&&decide (t1<(d.2.2.2.2.2.1.length:Int)) then
   let t2:=(d.2.2.2.2.2.1.getD (t1.toNat) ([],([],())))
   bif decide (0<=d.2.2.2.1)&&decide (d.2.2.2.1<(d.2.2.2.2.2.1.length:Int)) then
    let t3:=(d.2.2.2.2.2.1.getD (d.2.2.2.1.toNat) ([],([],())))
    bif decide (0<=d.2.2.2.1)&&decide (d.2.2.2.1<(d.2.2.2.2.2.1.length:Int)) then
     let t4:=(List.set d.2.2.2.2.2.1 (d.2.2.2.1.toNat) t2)
     bif decide (0<=t0)&&decide (t0<(t4.length:Int)) then
      let t5:=i64.wrap (d.2.2.2.1-1)
      some (.inl (d.1,d.2.1,d.2.2.1,t5,(List.set t4 (t0.toNat) t3),()))
     else none
    else none
   else none
  else none
 else
  some (.inr (.inl (d.1,d.2.1,d.2.2.1,d.2.2.2.2.2.1,())))
def xu (d:l0):N (l0⊕(eP⊕G)):=
 bif decide (d.2.2.2.1>d.1) then
  bif decide (0<=d.2.2.2.1)&&decide (d.2.2.2.1<(d.2.2.2.2.1.length:Int)) then
   let t0:=(d.2.2.2.2.1.getD (d.2.2.2.1.toNat) ([],([],())))
   let t1:=i64.wrap (d.2.2.2.1-1)
   bif decide (0<=t1)&&decide (t1<(d.2.2.2.2.1.length:Int)) then
    let t2:=(d.2.2.2.2.1.getD (t1.toNat) ([],([],())))
    match k7 (t0,t2,()) with
    |none=>none
    |some bR=>
     Br (d.1,d.2.1,d.2.2.1,d.2.2.2.1,(decide (bR.1<0)),d.2.2.2.2.1,())
   else none
  else none
 else
  Br (d.1,d.2.1,d.2.2.1,d.2.2.2.1,false,d.2.2.2.2.1,())
end D
