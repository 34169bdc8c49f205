import Derived.Test.YtmmmpanpbphkdaaGreatDoorXD
set_option linter.unusedVariables false
open Go Go.X
open Go.IntKind (i64)
namespace D
abbrev af:=List UInt8
abbrev ly:Type:=Int×Int×Unit
abbrev hh:Type:=af×Int×Unit
abbrev fc:Type:=Int×Int×Int×Unit
abbrev tW:Type:=ly×Unit
abbrev ah:Type:=af×af×Unit
abbrev ak:Type:=af×af×Int×Unit
abbrev iw:Type:=af×Int×Int×af×Unit
abbrev dX:Type:=ly×ly×Unit
abbrev nD:Type:=ak×Bool×Int×Int×Unit
abbrev mN:Type:=Bool×Bool×ak×af×Bool×Int×Unit
abbrev a6:Type:=Int×af×af×ah×af×af×Int×Unit
abbrev bs:Type:=List ak×(List af)×List Int×List dX×List a6×Unit
abbrev eh:Type:=List fc×((List (Int×Int×Int×Int×Int×Int×Unit))×(List (Int×Int×Int×Int×Int×Int×Unit))×(List (Int×Int×Int×Int×Int×Int×Unit))×(List (Int×Int×Int×Int×Int×Int×Unit))×Unit)×Int×Unit
abbrev cY:Type:=Bool×Bool×Int×bs×Unit
abbrev bO:Type:=List cY×Unit
abbrev dS:Type:=bO×Int×Unit
abbrev og:Type:=bO×Int×Int×Unit
abbrev ct:Type:=bO×Int×fc×Unit
@[reducible] def hA:aD:=(.pair (.int .i64) (.pair (.int .i64) .unit))
@[reducible] def Dd:aD:=(.pair (.int .i64) hA)
@[reducible] def Y3:aD:=(.pair hA .unit)
@[reducible] def ac:aD:=(.pair .str (.pair .str .unit))
@[reducible] def ba:aD:=(.pair .str (.pair .str (.pair (.int .i64) .unit)))
@[reducible] def fZ:aD:=(.pair .str (.pair (.int .i64) (.pair (.int .i64) (.pair .str .unit))))
@[reducible] def dJ:aD:=(.pair hA Y3)
@[reducible] def am3:aD:=(.pair .str (.pair .bool (.pair .bool (.pair .str (.pair .bool (.pair (.int .i64) .unit))))))
@[reducible] def Y5:aD:=(.pair ba (.pair .bool hA))
@[reducible] def Gx:aD:=(.pair (.pair .str .unit) (.pair fZ .unit))
@[reducible] def iv:aD:=(.pair .bool (.pair .bool (.pair ba (.pair .str (.pair .bool (.pair (.int .i64) .unit))))))
@[reducible] def cJ:aD:=(.pair (.int .i64) (.pair .str (.pair .str (.pair ac ba))))
@[reducible] def dp:aD:=(.pair (.list ba) (.pair (.list .str) (.pair (.list (.int .i64)) (.pair (.list dJ) (.pair (.list cJ) .unit)))))
@[reducible] def lj:aD:=(.pair (.list (.pair (.int .u8) (.pair (.int .u8) (.pair (.int .u8) .unit)))) (.pair (.pair (.list (.pair (.int .u8) (.pair (.int .u8) (.pair (.int .u8) (.pair (.int .u8) (.pair (.int .u8) (.pair (.int .u8) .unit))))))) (.pair (.list (.pair (.int .u8) (.pair (.int .u8) (.pair (.int .u8) (.pair (.int .u8) (.pair (.int .u8) (.pair (.int .u8) .unit))))))) (.pair (.list (.pair (.int .u8) (.pair (.int .u8) (.pair (.int .u8) (.pair (.int .u8) (.pair (.int .u8) (.pair (.int .u8) .unit))))))) (.pair (.list (.pair (.int .u8) (.pair (.int .u8) (.pair (.int .u8) (.pair (.int .u8) (.pair (.int .u8) (.pair (.int .u8) .unit))))))) .unit)))) (.pair (.int .u8) .unit)))
@[reducible] def h1:aD:=(.pair .bool (.pair .bool (.pair (.int .i64) (.pair dp .unit))))
@[reducible] def c0:aD:=(.pair (.list h1) .unit)
@[reducible] def eR:aD:=(.pair c0 (.pair (.int .i64) .unit))
@[reducible] def jg:aD:=(.pair c0 hA)
@[reducible] def gj:aD:=(.pair c0 (.pair (.int .i64) (.pair Dd .unit)))
abbrev Rl:Type:=af×af×af×(Int×Int×Int×Int×Int×Int×Unit)×Int×af×af×af×af×af×af×Int×ah×Unit
abbrev Rm:Type:=Int×Int×List a6×Bool×Bool×af×af×Int×af×Bool×Int×Bool×Bool×af×af×Int×af×Bool×Int×Unit
abbrev HL:Type:=List ak×(List (List af))×Int×bO×ah×eh×List cY×Int×List ak×List a6×List ah×(List af)×List Int×List dX×Unit
abbrev Cr:Type:=Int×List a6×Bool×Bool×af×af×Int×af×Bool×Int×Bool×Bool×af×af×Int×af×Bool×Int×Unit
abbrev RK:Type:=Bool×Int×Bool×Bool×af×af×Int×af×Bool×Int×Bool×Bool×af×af×Int×af×Bool×Int×Unit
abbrev Cs:Type:=List ak×(List (List af))×Int×bO×ah×eh×List cY×Int×(List af)×Unit
abbrev HN:Type:=Int×List cY×Int×List ak×og×bO×(List af)×List Int×List dX×List a6×Unit
abbrev Rn:Type:=List ah×Int×Int×List ah×Int×Int×List ah×ah×List ah×Unit
abbrev Ct:Type:=List ak×(List (List af))×bO×ah×eh×List cY×Int×(List af)×Unit
abbrev Ro:Type:=Bool×List ak×Int×(Int×Int×Int×Int×Int×Int×Unit)×ct×(List af)×Unit
abbrev Rp:Type:=Int×Int×Bool×Int×Int×ah×List ah×bO×Int×List ak×List ak×Unit
abbrev HO:Type:=List ak×List ah×Int×Int×bO×Int×bs×ah×List ah×Unit
abbrev HP:Type:=List ak×Int×Int×bO×Int×bs×List ah×List ah×List ak×Unit
abbrev Rq:Type:=List dX×Int×Int×bs×Int×Int×Int×Int×Int×Int×Int×Int×Unit
abbrev r6:Type:=Int×Int×Int×Int×ah×List ah×bO×Int×List ak×List ak×Unit
abbrev Rr:Type:=af×Int×List mN×ct×af×af×Int×Bool×Int×Unit
abbrev ur:Type:=a6×Bool×Bool×af×af×Int×af×Bool×Int×Unit
abbrev Rs:Type:=af×(List af)×Int×Int×ah×List ah×Unit
abbrev HQ:Type:=(List (Int×Int×Int×Int×Int×Int×Unit))×Int×Int×List a6×Unit
abbrev xO:Type:=List a6×Int×Int×Int×Int×Int×Int×Int×Int×Int×Int×Unit
abbrev Rc:Type:=af×(List af)×Int×Int×bs×ah×Unit
abbrev Rd:Type:=(List af)×af×Int×ah×List ah×Unit
abbrev Re:Type:=Int×Int×Int×Bool×Bool×Int×Int×Bool×List ah×Unit
abbrev Rf:Type:=Int×Int×Int×List ah×a6×ah×List ah×Unit
abbrev Rg:Type:=Int×Bool×af×af×Int×Int×af×Unit
abbrev RI:Type:=List ak×af×Int×af×af×Int×Unit
abbrev k6:Type:=bO×List ak×ah×(List (List af))×eh×Unit
abbrev RJ:Type:=Int×Int×Int×Bool×Bool×Int×Int×List ah×Unit
abbrev H7:Type:=List ah×Int×Int×List ah×List ah×Unit
abbrev k7:Type:=Int×Int×ah×List ah×bO×Int×List ak×Unit
abbrev H8:Type:=af×Int×af×Int×Int×af×Unit
abbrev RL:Type:=af×List ah×Int×Int×List ah×Unit
abbrev RM:Type:=(List (List ak))×Int×(List (List ak))×Int×Int×Unit
abbrev CF:Type:=Int×Int×Int×Int×bO×bs×List ah×Unit
abbrev RO:Type:=Int×Int×bs×List cY×Int×Int×List cY×Unit
abbrev RP:Type:=af×af×Int×(List af)×Unit
abbrev RQ:Type:=(List af)×af×Int×Int×Int×Unit
abbrev CG:Type:=Int×bs×Int×Int×Int×Int×dX×Unit
abbrev xV:Type:=af×af×Int×Int×af×Unit
abbrev xW:Type:=af×af×af×List Int×Unit
abbrev CH:Type:=Bool×iw×af×Int×Int×af×Unit
abbrev RR:Type:=List Int×Int×Int×bO×bs×List cY×Unit
abbrev RS:Type:=Int×List Int×Int×Int×List cY×List cY×Unit
abbrev lM:Type:=bs×ah×List ah×bO×Int×Unit
abbrev RT:Type:=af×af×Int×Int×List ak×Unit
abbrev oO:Type:=Int×Int×Int×Bool×Bool×List ah×Unit
abbrev RU:Type:=Int×Int×Int×Int×Bool×List ah×Unit
abbrev uz:Type:=Int×Int×Int×Int×Int×List ah×Unit
abbrev H0:Type:=Int×Int×Int×Int×List ah×Int×Unit
abbrev RE:Type:=List ak×Int×Int×Int×Int×Int×Int×Unit
abbrev RF:Type:=List ak×Bool×Int×Bool×ak×List ak×Unit
abbrev H2:Type:=af×Int×af×af×Unit
abbrev RG:Type:=List Int×Int×Int×bs×ah×Unit
abbrev xT:Type:=Int×bO×bs×List cY×Int×Int×Unit
abbrev CA:Type:=Int×Int×List ah×List ah×Unit
abbrev RH:Type:=Bool×List ak×Int×ct×List ah×Unit
abbrev H3:Type:=Int×Int×ah×List a6×List a6×Unit
abbrev CB:Type:=List ak×List ah×Int×List ak×Unit
abbrev kp:Type:=Int×Int×Int×Int×List ah×Unit
abbrev CC:Type:=Int×Int×List ah×ah×Unit
abbrev nN:Type:=List ak×Bool×Int×ak×List ak×Unit
abbrev CD:Type:=Int×Int×List ak×List ah×Unit
abbrev m4:Type:=Int×Int×Int×Int×Int×Int×Unit
abbrev H4:Type:=Int×List mN×ak×Bool×Int×Unit
abbrev dW:Type:=Int×Int×Int×List ah×Unit
abbrev xU:Type:=af×af×Bool×Unit
abbrev H5:Type:=List ah×List ah×Unit
abbrev CE:Type:=Int×List a6×List ah×Unit
abbrev H6:Type:=Int×bO×bs×List ak×Unit
abbrev qe:Type:=List ak×List ak×List ak×Unit
abbrev kq:Type:=Int×Int×List ah×Unit
abbrev HW:Type:=Int×List ah×Int×Unit
abbrev qc:Type:=bO×Int×ah×Int×Unit
abbrev qd:Type:=List ah×ah×Unit
abbrev HX:Type:=List fc×Int×List ak×Unit
abbrev uw:Type:=List ak×List ah×Unit
abbrev HY:Type:=af×Int×Bool×Unit
abbrev HZ:Type:=af×Int×Int×Unit
abbrev H9:Type:=ah×af×Unit
abbrev xX:Type:=List ak×af×Unit
abbrev sa:Type:=ah×ah×Unit
abbrev xY:Type:=bs×ah×Unit
abbrev uA:Type:=List ak×ah×Unit
abbrev xZ:Type:=List ak×List ak×Unit
abbrev uB:Type:=af×Bool×Unit
abbrev CI:Type:=ct×af×Unit
abbrev uC:Type:=a6×List ak×Unit
abbrev CJ:Type:=Int×Bool×Unit
def tT (s:ah):Option (Bool×Unit):=
 let t0:=(!decide ((s.1:af)=[]))
 bif t0 then
  let t1:=decide ((s.2.1:af)=[])
  bif !t1 then
   some ((Op.bytesLess s.1 s.2.1),())
  else
   some (true,())
 else
  some (false,())
def rp (s:ah×Unit):Option (Bool×Unit):=
 let t0:=(!decide ((s.1.2.1:af)=[]))
 bif t0 then
  let t1:=(Op.bytesLess s.1.2.1 s.1.1||decide ((s.1.2.1:af)=s.1.1))
  some (t1,())
 else
  some (false,())
def KP (s:Unit):Option (ah×Unit):=
 some ((([97]:af),(([97]:af),())),())
def He (s:af×af×af×af×Unit):Option (ah×Unit):=
 match rp ((s.2.2.1,(s.2.2.2.1,())),()) with
 |none=>none
 |some aj=>
  bif aj.1 then
   match KP (()) with
   |none=>none
   |some au=>
    some (au.1,())
  else
   some ((s.2.2.1,(s.2.2.2.1,())),())
def x5 (s:sa):Option (ah×Unit):=
 let t0:af:=(bif !(Op.bytesLess s.1.1 s.2.1.1) then s.1.1 else s.2.1.1)
 match tT (s.2.1.2.1,s.1.2.1,()) with
 |none=>none
 |some au=>
  bif au.1 then
   He ([],[],t0,s.2.1.2.1,())
  else
   He ([],[],t0,s.1.2.1,())
def A7 (s:Rd):Option (Rd⊕((af×ah×List ah×Unit)⊕Unit)):=
 let t0:=(decide (s.2.2.1<((List.length s.1):Int)))
 bif t0 then
  bif decide (0<=s.2.2.1)&&decide (s.2.2.1<(List.length s.1:Int)) then
   let t1:=(List.getD s.1 (Int.toNat s.2.2.1) [])
   match x5 (s.2.2.2.1,(s.2.1,(t1,())),()) with
   |none=>none
   |some aL=>
    bif (decide ((List.length s.2.2.2.2.1+List.length ([aL.1]:List ah))*32<=bm)) then
     let t3:List ah:=(s.2.2.2.2.1++([aL.1]:List ah))
     bif decide (0<=s.2.2.1)&&decide (s.2.2.1<(List.length s.1:Int)) then
      let t4:=(List.getD s.1 (Int.toNat s.2.2.1) [])
      some (.inl (s.1,t4,(i64.wrap (s.2.2.1+1)),s.2.2.2.1,t3,()))
     else none
    else none
  else none
 else
  some (.inr (.inl (s.2.1,s.2.2.2.1,s.2.2.2.2.1,())))
def Ip:=bN A7
def xf (s:ah×(List af)×Unit):Option (List ah×Unit):=
 match Ip (s.2.1,[],0,s.1,[],()) with
 |none=>none
 |some (.inl z0)=>
  match x5 (z0.2.1,(z0.1,([],())),()) with
  |none=>none
  |some au=>
   bif (decide ((List.length z0.2.2.1+List.length ([au.1]:List ah))*32<=bm)) then
    let t2:List ah:=(z0.2.2.1++([au.1]:List ah))
    some (t2,())
   else none
 |some (.inr z0)=>
  none
def BU (s:xY):Option (List ah×Unit):=
 let t0:=(decide ((((List.length s.1.2.2.1):Int):Int)=0))
 bif t0 then
  some ([],())
 else
  match xf (s.2.1,s.1.2.1,()) with
  |none=>none
  |some au=>
   some (au.1,())
def yk (s:H9):Option (Bool×Unit):=
 bif (!(Op.bytesLess s.2.1 s.1.1)) then
  let t0:=decide ((s.1.2.1:af)=[])
  bif !t0 then
   some ((Op.bytesLess s.2.1 s.1.2.1),())
  else
   some (true,())
 else
  some (false,())
def A9 (s:List ak×Int×ah×List ak×Unit):Option ((List ak×Int×ah×List ak×Unit)⊕((List ak×Unit)⊕Unit)):=
 let t0:=(decide (s.2.1<((List.length s.1):Int)))
 bif t0 then
  bif decide (0<=s.2.1)&&decide (s.2.1<(List.length s.1:Int)) then
   let t1:=(List.getD s.1 (Int.toNat s.2.1) ([],([],(0,()))))
   match yk (s.2.2.1,t1.1,()) with
   |none=>none
   |some aL=>
    bif aL.1 then
     bif decide (0<=s.2.1)&&decide (s.2.1<(List.length s.1:Int)) then
      let t3:=(List.getD s.1 (Int.toNat s.2.1) ([],([],(0,()))))
      bif (decide ((List.length s.2.2.2.1+List.length ([t3]:List ak))*40<=bm)) then
       let t4:List ak:=(s.2.2.2.1++([t3]:List ak))
       some (.inl (s.1,(i64.wrap (s.2.1+1)),s.2.2.1,t4,()))
      else none
     else none
    else
     some (.inl (s.1,(i64.wrap (s.2.1+1)),s.2.2.1,s.2.2.2.1,()))
  else none
 else
  some (.inr (.inl (s.2.2.2.1,())))
def Ir:=bN A9
def BT (s:uA):Option (List ak×Unit):=
 match Ir (s.1,0,s.2.1,[],()) with
 |none=>none
 |some (.inl z0)=>
  some (z0.1,())
 |some (.inr z0)=>
  none
def xm (s:dS):Option (Bool×Unit):=
 bif decide (s.2.1>=0) then
  let t0:=(decide (s.2.1<((List.length s.1.1):Int)))
  bif t0 then
   bif decide (0<=s.2.1)&&decide (s.2.1<(List.length s.1.1:Int)) then
    let t1:=(List.getD s.1.1 (Int.toNat s.2.1) (false,(false,(0,(([],([],([],([],([],()))))),())))))
    some (t1.1,())
   else none
  else
   some (false,())
 else
  some (false,())
def BH (s:bO×Unit):Option bO:=
 bif (decide ((List.length ([]:List cY)+List.length s.1.1)*136<=bm)) then
  let t0:List cY:=([]++s.1.1)
  some (t0,())
 else none
def BE (s:xT):Option (xT⊕(og⊕(bO×bs×List cY×Int×Int×Unit))):=
 let t0:=(decide (s.1<((List.length s.2.2.1.2.2.1):Int)))
 bif t0 then
  bif decide (0<=s.1)&&decide (s.1<(List.length s.2.2.1.2.2.1:Int)) then
   let t1:=(List.getD s.2.2.1.2.2.1 (Int.toNat s.1) 0)
   match xm (s.2.1,t1,()) with
   |none=>none
   |some aL=>
    bif !aL.1 then
     some (.inr (.inl (s.2.1,0,110,())))
    else
     some (.inl ((i64.wrap (s.1+1)),s.2.1,s.2.2.1,s.2.2.2.1,s.2.2.2.2.1,s.2.2.2.2.2.1,()))
  else none
 else
  some (.inr (.inr (s.2.1,s.2.2.1,s.2.2.2.1,s.2.2.2.2.1,s.2.2.2.2.2.1,())))
def JW:=bN BE
def BF (s:xT):Option (xT⊕(xT⊕Unit)):=
 let t0:=(decide (s.1<((List.length s.2.1.1):Int)))
 bif t0 then
  bif decide (0<=s.1)&&decide (s.1<(List.length s.2.1.1:Int)) then
   let t1:=(List.getD s.2.1.1 (Int.toNat s.1) (false,(false,(0,(([],([],([],([],([],()))))),())))))
   bif t1.1 then
    some (.inl ((i64.wrap (s.1+1)),s.2.1,s.2.2.1,s.2.2.2.1,s.2.2.2.2.1,s.2.2.2.2.2.1,()))
   else
    some (.inr (.inl (s.1,s.2.1,s.2.2.1,s.2.2.2.1,s.2.2.2.2.1,s.2.2.2.2.2.1,())))
  else none
 else
  some (.inr (.inl (s.1,s.2.1,s.2.2.1,s.2.2.2.1,s.2.2.2.2.1,s.2.2.2.2.2.1,())))
def JX:=bN BF
def BG (s:RO):Option (RO⊕((Int×List cY×Int×Int×List cY×Unit)⊕Unit)):=
 let t0:=(decide (s.2.1<((List.length s.2.2.1.2.2.1):Int)))
 bif t0 then
  bif decide (0<=s.2.1)&&decide (s.2.1<(List.length s.2.2.1.2.2.1:Int)) then
   let t1:=(List.getD s.2.2.1.2.2.1 (Int.toNat s.2.1) 0)
   bif decide (0<=t1)&&decide (t1<(List.length s.2.2.2.2.2.2.1:Int)) then
    let t2:=(List.getD s.2.2.2.2.2.2.1 (Int.toNat t1) (false,(false,(0,(([],([],([],([],([],()))))),())))))
    let t3:=i64.wrap (t2.2.2.1+1)
    bif decide (0<=t1)&&decide (t1<(List.length s.2.2.2.2.2.2.1:Int)) then
     let t4:=(List.set s.2.2.2.2.2.2.1 (Int.toNat t1) ((List.getD s.2.2.2.2.2.2.1 (Int.toNat t1) (false,(false,(0,(([],([],([],([],([],()))))),()))))).1,((List.getD s.2.2.2.2.2.2.1 (Int.toNat t1) (false,(false,(0,(([],([],([],([],([],()))))),()))))).2.1,(t3,(List.getD s.2.2.2.2.2.2.1 (Int.toNat t1) (false,(false,(0,(([],([],([],([],([],()))))),()))))).2.2.2))))
     some (.inl (s.1,(i64.wrap (s.2.1+1)),s.2.2.1,s.2.2.2.1,s.2.2.2.2.1,s.2.2.2.2.2.1,t4,()))
    else none
   else none
  else none
 else
  some (.inr (.inl (s.1,s.2.2.2.1,s.2.2.2.2.1,s.2.2.2.2.2.1,s.2.2.2.2.2.2.1,())))
def JY:=bN BG
def JV (s:Int×bs×List cY×Int×Int×List cY×Unit):Option (og×Unit):=
 bif decide (0<=s.1)&&decide (s.1<(List.length s.2.2.2.2.2.1:Int)) then
  let t0:=(List.set s.2.2.2.2.2.1 (Int.toNat s.1) (true,(false,(1,(s.2.1,())))))
  match JY (s.1,0,s.2.1,s.2.2.1,s.2.2.2.1,s.2.2.2.2.1,t0,()) with
  |none=>none
  |some (.inl aH)=>
   some (((aH.2.2.2.2.1,()),(aH.1,(0,()))),())
  |some (.inr aH)=>
   none
 else none
def rO (s:bO×bs×Unit):Option (og×Unit):=
 match JW (0,s.1,s.2.1,[],0,0,()) with
 |none=>none
 |some (.inl z0)=>
  some ((z0.1,(z0.2.1,(z0.2.2.1,()))),())
 |some (.inr z0)=>
  match JX (0,z0.1,z0.2.1,z0.2.2.1,z0.2.2.2.1,z0.2.2.2.2.1,()) with
  |none=>none
  |some (.inl aH)=>
   bif decide (aH.1>=4096) then
    some ((aH.2.1,(0,(111,()))),())
   else
    match BH (aH.2.1,()) with
    |none=>none
    |some aL=>
     let t3:=(decide (aH.1=((List.length aL.1):Int)))
     bif t3 then
      bif (decide ((List.length aL.1+List.length ([(false,(false,(0,(([],([],([],([],([],()))))),()))))]:List cY))*136<=bm)) then
       let t4:List cY:=(aL.1++([(false,(false,(0,(([],([],([],([],([],()))))),()))))]:List cY))
       JV (aH.1,aH.2.2.1,aH.2.2.2.1,aH.2.2.2.2.1,aH.2.2.2.2.2.1,t4,())
      else none
     else
      JV (aH.1,aH.2.2.1,aH.2.2.2.1,aH.2.2.2.2.1,aH.2.2.2.2.2.1,aL.1,())
  |some (.inr aH)=>
   none
def KQ (s:dX×dX×Unit):Option (dX×Unit):=
 let t0:Int:=(if ((i64.wrap (s.1.1.1+s.2.1.1.1)):Int)<1000000000000000 then (i64.wrap (s.1.1.1+s.2.1.1.1)) else 1000000000000000)
 let t1:=i64.wrap (s.1.1.2.1+s.2.1.1.2.1)
 let t2:Int:=(if (t1:Int)<1000000000000000 then t1 else 1000000000000000)
 let t3:=i64.wrap (s.1.2.1.1+s.2.1.2.1.1)
 let t4:Int:=(if (t3:Int)<1000000000000000 then t3 else 1000000000000000)
 let t5:=i64.wrap (s.1.2.1.2.1+s.2.1.2.1.2.1)
 let t6:Int:=(if (t5:Int)<1000000000000000 then t5 else 1000000000000000)
 some (((t0,(t2,())),((t4,(t6,())),())),())
def Io (s:af×Int×Bool×af×Int×Int×af×af×Int×Int×af×Unit):Option (iw×Unit):=
 bif s.2.2.1 then
  bif decide ((1:Int)<=s.2.1)&&decide (s.2.1<=(List.length s.1:Int)) then
   let t0:=(List.drop (Int.toNat 1) (List.take (Int.toNat s.2.1) s.1))
   some ((t0,(4,(s.2.2.2.2.2.2.2.2.2.1,(s.2.2.2.2.2.2.2.2.2.2.1,())))),())
  else none
 else
  some ((s.2.2.2.2.2.2.2.1,(s.2.2.2.2.2.2.2.2.1,(s.2.2.2.2.2.2.2.2.2.1,(s.2.2.2.2.2.2.2.2.2.2.1,())))),())
def U9 (s:af×Int×af×Int×Int×af×af×Int×Int×af×Unit):Option (iw×Unit):=
 let t0:=decide (s.2.2.2.2.2.2.2.1=1)
 bif t0 then
  bif decide (s.2.1>0) then
   bif decide ((0:Int)<(List.length s.1:Int)) then
    let t1:=(decide ((((List.getD s.1 0 0).toNat:Int):Int)=6))
    Io (s.1,s.2.1,t1,s.2.2.1,s.2.2.2.1,s.2.2.2.2.1,s.2.2.2.2.2.1,s.2.2.2.2.2.2.1,s.2.2.2.2.2.2.2.1,s.2.2.2.2.2.2.2.2.1,s.2.2.2.2.2.2.2.2.2.1,())
   else none
  else
   Io (s.1,s.2.1,false,s.2.2.1,s.2.2.2.1,s.2.2.2.2.1,s.2.2.2.2.2.1,s.2.2.2.2.2.2.1,s.2.2.2.2.2.2.2.1,s.2.2.2.2.2.2.2.2.1,s.2.2.2.2.2.2.2.2.2.1,())
 else
  Io (s.1,s.2.1,false,s.2.2.1,s.2.2.2.1,s.2.2.2.2.1,s.2.2.2.2.2.1,s.2.2.2.2.2.2.1,s.2.2.2.2.2.2.2.1,s.2.2.2.2.2.2.2.2.1,s.2.2.2.2.2.2.2.2.2.1,())
def U8 (s:af×Int×af×af×Int×Int×af×af×Int×Int×af×Unit):Option (iw×Unit):=
 let t0:=decide (s.2.2.2.2.2.2.2.2.1=3)
 bif t0 then
  U9 (s.1,s.2.1,s.2.2.2.1,s.2.2.2.2.1,s.2.2.2.2.2.1,s.2.2.2.2.2.2.1,s.2.2.2.2.2.2.2.1,s.2.2.2.2.2.2.2.2.1,s.2.2.2.2.2.2.2.2.2.1,s.2.2.1,())
 else
  U9 (s.1,s.2.1,s.2.2.2.1,s.2.2.2.2.1,s.2.2.2.2.2.1,s.2.2.2.2.2.2.1,s.2.2.2.2.2.2.2.1,s.2.2.2.2.2.2.2.2.1,s.2.2.2.2.2.2.2.2.2.1,s.2.2.2.2.2.2.2.2.2.2.1,())
def Va (s:af×Int×af×Bool×af×Int×Int×af×af×Int×Int×af×Unit):Option (iw×Unit):=
 bif s.2.2.2.1 then
  bif decide ((0:Int)<(List.length s.2.2.1:Int)) then
   let t0:=i64.wrap ((List.getD s.2.2.1 0 0).toNat:Int)
   bif decide ((1:Int)<(List.length s.2.2.1:Int)) then
    let t1:Int:=((List.getD s.2.2.1 (Int.toNat 1) 0).toNat:Int)
    let t2:=(i64.wrap ((i64.wrap (256*t0))+(i64.wrap t1)))
    U8 (s.1,s.2.1,s.2.2.1,s.2.2.2.2.1,s.2.2.2.2.2.1,s.2.2.2.2.2.2.1,s.2.2.2.2.2.2.2.1,s.2.2.2.2.2.2.2.2.1,s.2.2.2.2.2.2.2.2.2.1,t2,s.2.2.2.2.2.2.2.2.2.2.2.1,())
   else none
  else none
 else
  U8 (s.1,s.2.1,s.2.2.1,s.2.2.2.2.1,s.2.2.2.2.2.1,s.2.2.2.2.2.2.1,s.2.2.2.2.2.2.2.1,s.2.2.2.2.2.2.2.2.1,s.2.2.2.2.2.2.2.2.2.1,s.2.2.2.2.2.2.2.2.2.2.1,s.2.2.2.2.2.2.2.2.2.2.2.1,())
def X7 (s:hh):Option (iw×Unit):=
 bif decide ((0:Int)<=s.2.1)&&decide (s.2.1<=(List.length s.1:Int)) then
  let t0:=(List.drop 0 (List.take (Int.toNat s.2.1) s.1))
  bif decide (0<=s.2.1)&&decide (s.2.1<(List.length s.1:Int)) then
   let t1:Int:=((List.getD s.1 (Int.toNat s.2.1) 0).toNat:Int)
   bif (decide (0<=(i64.wrap (s.2.1+1)))&&decide (((i64.wrap (s.2.1+1)):Int)<=(List.length s.1:Int))&&decide (((List.length s.1:Int):Int)<=(List.length s.1:Int))) then
    let t2:=(List.drop (Int.toNat (i64.wrap (s.2.1+1))) (List.take (Int.toNat (List.length s.1:Int)) s.1))
    let t3:=(decide (((i64.wrap t1):Int)=2))
    bif t3 then
     let t4:=(decide ((((List.length t2):Int):Int)=2))
     Va (s.1,s.2.1,t2,t4,[],0,0,[],t0,(i64.wrap t1),0,[],())
    else
     Va (s.1,s.2.1,t2,false,[],0,0,[],t0,(i64.wrap t1),0,[],())
   else none
  else none
 else none
def Vv (s:RP):Option (RP⊕((af×(List af)×Unit)⊕Unit)):=
 let t0:=(decide (s.2.2.1<((List.length s.1):Int)))
 bif t0 then
  bif decide (0<=s.2.2.1)&&decide (s.2.2.1<(List.length s.1:Int)) then
   let t1:Int:=((List.getD s.1 (Int.toNat s.2.2.1) 0).toNat:Int)
   bif decide (t1=47) then
    bif (decide ((List.length s.2.2.2.1+List.length ([s.2.1]:List af))*16<=bm)) then
     let t2:List af:=(s.2.2.2.1++([s.2.1]:List af))
     some (.inl (s.1,[],(i64.wrap (s.2.2.1+1)),t2,()))
    else none
   else
    bif (decide (0<=s.2.2.1)&&decide (s.2.2.1<=(i64.wrap (s.2.2.1+1)))&&decide (((i64.wrap (s.2.2.1+1)):Int)<=(List.length s.1:Int))) then
     let t2:=(List.drop (Int.toNat s.2.2.1) (List.take (Int.toNat (i64.wrap (s.2.2.1+1))) s.1))
     bif decide (List.length s.2.1+List.length t2<=bm) then
      some (.inl (s.1,(s.2.1++t2),(i64.wrap (s.2.2.1+1)),s.2.2.2.1,()))
     else none
    else none
  else none
 else
  some (.inr (.inl (s.2.1,s.2.2.2.1,())))
def UZ:=bN Vv
def X6 (s:af×Unit):Option (Bool×(List af)×Unit):=
 match UZ (s.1,[],0,[],()) with
 |none=>none
 |some (.inl z0)=>
  let t1:=decide ((z0.1:af)=[])
  some (t1,z0.2.1,())
 |some (.inr z0)=>
  none
def WC (s:hh):Option (hh⊕((Bool×Unit)⊕Unit)):=
 let t0:=(decide (s.2.1<((List.length s.1):Int)))
 bif t0 then
  bif decide (0<=s.2.1)&&decide (s.2.1<(List.length s.1:Int)) then
   let t1:Int:=((List.getD s.1 (Int.toNat s.2.1) 0).toNat:Int)
   bif (!(decide (t1<33))) then
    bif decide (0<=s.2.1)&&decide (s.2.1<(List.length s.1:Int)) then
     let t2:Int:=((List.getD s.1 (Int.toNat s.2.1) 0).toNat:Int)
     bif (!(decide (t2>126))) then
      bif decide (0<=s.2.1)&&decide (s.2.1<(List.length s.1:Int)) then
       let t3:Int:=((List.getD s.1 (Int.toNat s.2.1) 0).toNat:Int)
       bif decide (t3=47) then
        some (.inr (.inl (false,())))
       else
        some (.inl (s.1,(i64.wrap (s.2.1+1)),()))
      else none
     else
      some (.inr (.inl (false,())))
    else none
   else
    some (.inr (.inl (false,())))
  else none
 else
  some (.inr (.inr (())))
def WE:=bN WC
def KO (s:af×Unit):Option (Bool×Unit):=
 let t0:=(decide ((((List.length s.1):Int):Int)<1))
 bif !t0 then
  let t1:=(decide ((((List.length s.1):Int):Int)>12))
  bif !t1 then
   let t2:=decide ((s.1:af)=([46]:af))
   bif !t2 then
    let t3:=decide ((s.1:af)=([46,46]:af))
    bif t3 then
     some (false,())
    else
     match WE (s.1,0,()) with
     |none=>none
     |some (.inl z4)=>
      some (z4.1,())
     |some (.inr z4)=>
      some (true,())
   else
    some (false,())
  else
   some (false,())
 else
  some (false,())
def U4 (s:Bool×Int×(List af)×Unit):Option ((Bool×Int×(List af)×Unit)⊕((Bool×Unit)⊕(Bool×Unit))):=
 let t0:=(decide (s.2.1<((List.length s.2.2.1):Int)))
 bif t0 then
  bif decide (0<=s.2.1)&&decide (s.2.1<(List.length s.2.2.1:Int)) then
   let t1:=(List.getD s.2.2.1 (Int.toNat s.2.1) [])
   match KO (t1,()) with
   |none=>none
   |some aL=>
    bif !aL.1 then
     some (.inr (.inl (false,())))
    else
     some (.inl (s.1,(i64.wrap (s.2.1+1)),s.2.2.1,()))
  else none
 else
  some (.inr (.inr (s.1,())))
def U6:=bN U4
def BS (s:af×Unit):Option (Bool×Unit):=
 match X6 (s.1,()) with
 |none=>none
 |some aj=>
  match U6 (aj.1,0,aj.2.1,()) with
  |none=>none
  |some (.inl aH)=>
   some (aH.1,())
  |some (.inr aH)=>
   some (aH.1,())
def Wy (s:Int×af×Int×Unit):Option ((Int×af×Int×Unit)⊕((af×Unit)⊕Unit)):=
 bif decide (s.2.2.1<8) then
  let t0:=i64.wrap ((Int.tmod s.1 16)+1)
  bif (decide (0<=(Int.tmod s.1 16))&&decide (((Int.tmod s.1 16):Int)<=t0)&&decide (t0<=(List.length ([48,49,50,51,52,53,54,55,56,57,97,98,99,100,101,102]:af):Int))) then
   let t1:=(List.drop (Int.toNat (Int.tmod s.1 16)) (List.take (Int.toNat t0) ([48,49,50,51,52,53,54,55,56,57,97,98,99,100,101,102]:af)))
   bif decide (List.length t1+List.length s.2.1<=bm) then
    let t2:=i64.wrap (Int.tdiv s.1 16)
    some (.inl (t2,(t1++s.2.1),(i64.wrap (s.2.2.1+1)),()))
   else none
  else none
 else
  some (.inr (.inl (s.2.1,())))
def WB:=bN Wy
def WA (s:CJ):Option (af×Unit):=
 bif s.2.1 then
  some ([],())
 else
  match WB (s.1,[],0,()) with
  |none=>none
  |some (.inl z0)=>
   bif decide (List.length ([5]:af)+List.length z0.1<=bm) then
    bif (decide (List.length (([5]:af)++z0.1)+List.length ([47]:af)<=bm)) then
     let t1:af:=((([5]:af)++z0.1)++([47]:af))
     some (t1,())
    else none
   else none
  |some (.inr z0)=>
   none
def Y2 (s:Int×Unit):Option (af×Unit):=
 bif (!(decide (s.1<0))) then
  let t0:=decide (s.1>2147483647)
  WA (s.1,t0,())
 else
  WA (s.1,true,())
def Sk (s:af×Int×Int×Int×Bool×Unit):Option (HZ⊕(hh⊕Unit)):=
 bif s.2.2.2.2.1 then
  let t0:=(i64.wrap ((i64.wrap (16*s.2.1))+s.2.2.2.1))
  some (.inl (s.1,(i64.wrap (t0-48)),(i64.wrap (s.2.2.1+1)),()))
 else
  let t0:=(i64.wrap ((i64.wrap (16*s.2.1))+s.2.2.2.1))
  let t1:=(i64.wrap ((i64.wrap (t0-97))+10))
  some (.inl (s.1,t1,(i64.wrap (s.2.2.1+1)),()))
def TM (s:HZ):Option (HZ⊕(hh⊕Unit)):=
 bif decide (s.2.2.1<9) then
  bif decide (0<=s.2.2.1)&&decide (s.2.2.1<(List.length s.1:Int)) then
   let t0:Int:=((List.getD s.1 (Int.toNat s.2.2.1) 0).toNat:Int)
   let t1:=(decide (((i64.wrap t0):Int)>=48))
   bif t1 then
    let t2:=(decide (((i64.wrap t0):Int)<=57))
    Sk (s.1,s.2.1,s.2.2.1,(i64.wrap t0),t2,())
   else
    Sk (s.1,s.2.1,s.2.2.1,(i64.wrap t0),false,())
  else none
 else
  some (.inr (.inl (s.1,s.2.1,())))
def TO:=bN TM
def Hq (s:af×Unit):Option (Bool×Unit):=
 let t0:=(!decide ((((List.length s.1):Int):Int)=10))
 bif t0 then
  some (false,())
 else
  match TO (s.1,0,1,()) with
  |none=>none
  |some (.inl aH)=>
   match Y2 (aH.2.1,()) with
   |none=>none
   |some aL=>
    some ((decide ((aL.1:af)=aH.1)),())
  |some (.inr aH)=>
   none
def bi (s:Bool×iw×Unit):Option ((iw×Unit)⊕(Bool×Unit)):=
 bif s.1 then
  some (.inr (false,()))
 else
  some (.inl (s.2.1,()))
def wB (s:iw×Unit):Option ((Bool×Unit)⊕Unit):=
 bif decide (s.1.2.1=4) then
  match BS (s.1.1,()) with
  |none=>none
  |some aj=>
   some (.inl (aj.1,()))
 else
  some (.inl (false,()))
def j5 (s:iw×Unit):Option ((Bool×Unit)⊕Unit):=
 bif decide (s.1.2.1=1) then
  some (.inl (true,()))
 else
  bif decide (s.1.2.1=2) then
   bif decide (s.1.2.2.1>=0) then
    let t0:=decide (s.1.2.2.1<=60000)
    some (.inl (t0,()))
   else
    some (.inl (false,()))
  else
   bif decide (s.1.2.1=3) then
    match KO (s.1.2.2.2.1,()) with
    |none=>none
    |some aj=>
     some (.inl (aj.1,()))
   else
    match wB (s.1,()) with
    |none=>none
    |some (.inl z0)=>
     some (.inl (z0.1,()))
    |some (.inr z0)=>
     none
def X8 (s:iw×Unit):Option (Bool×Unit):=
 match BS (s.1.1,()) with
 |none=>none
 |some aj=>
  bif !aj.1 then
   match Hq (s.1.1,()) with
   |none=>none
   |some au=>
    bif (!(!au.1)) then
     bif (!decide (s.1.2.1=2)) then
      let t2:=(!decide (s.1.2.2.1=0))
      bif !t2 then
       bif (!decide (s.1.2.1=3)) then
        let t3:=(!decide ((s.1.2.2.2.1:af)=[]))
        match bi (t3,s.1,()) with
        |none=>none
        |some (.inl z4)=>
         match j5 (z4.1,()) with
         |none=>none
         |some (.inl z5)=>
          some (z5.1,())
         |some (.inr z5)=>
          none
        |some (.inr z4)=>
         some (z4.1,())
       else
        match bi (false,s.1,()) with
        |none=>none
        |some (.inl z3)=>
         match j5 (z3.1,()) with
         |none=>none
         |some (.inl z4)=>
          some (z4.1,())
         |some (.inr z4)=>
          none
        |some (.inr z3)=>
         some (z3.1,())
      else
       match bi (true,s.1,()) with
       |none=>none
       |some (.inl z3)=>
        match j5 (z3.1,()) with
        |none=>none
        |some (.inl z4)=>
         some (z4.1,())
        |some (.inr z4)=>
         none
       |some (.inr z3)=>
        some (z3.1,())
     else
      bif (!decide (s.1.2.1=3)) then
       let t2:=(!decide ((s.1.2.2.2.1:af)=[]))
       match bi (t2,s.1,()) with
       |none=>none
       |some (.inl z3)=>
        match j5 (z3.1,()) with
        |none=>none
        |some (.inl z4)=>
         some (z4.1,())
        |some (.inr z4)=>
         none
       |some (.inr z3)=>
        some (z3.1,())
      else
       match bi (false,s.1,()) with
       |none=>none
       |some (.inl z2)=>
        match j5 (z2.1,()) with
        |none=>none
        |some (.inl z3)=>
         some (z3.1,())
        |some (.inr z3)=>
         none
       |some (.inr z2)=>
        some (z2.1,())
    else
     match bi (true,s.1,()) with
     |none=>none
     |some (.inl z2)=>
      match j5 (z2.1,()) with
      |none=>none
      |some (.inl z3)=>
       some (z3.1,())
      |some (.inr z3)=>
       none
     |some (.inr z2)=>
      some (z2.1,())
  else
   bif (!decide (s.1.2.1=2)) then
    let t1:=(!decide (s.1.2.2.1=0))
    bif !t1 then
     bif (!decide (s.1.2.1=3)) then
      let t2:=(!decide ((s.1.2.2.2.1:af)=[]))
      match bi (t2,s.1,()) with
      |none=>none
      |some (.inl z3)=>
       match j5 (z3.1,()) with
       |none=>none
       |some (.inl z4)=>
        some (z4.1,())
       |some (.inr z4)=>
        none
      |some (.inr z3)=>
       some (z3.1,())
     else
      match bi (false,s.1,()) with
      |none=>none
      |some (.inl z2)=>
       match j5 (z2.1,()) with
       |none=>none
       |some (.inl z3)=>
        some (z3.1,())
       |some (.inr z3)=>
        none
      |some (.inr z2)=>
       some (z2.1,())
    else
     match bi (true,s.1,()) with
     |none=>none
     |some (.inl z2)=>
      match j5 (z2.1,()) with
      |none=>none
      |some (.inl z3)=>
       some (z3.1,())
      |some (.inr z3)=>
       none
     |some (.inr z2)=>
      some (z2.1,())
   else
    bif (!decide (s.1.2.1=3)) then
     let t1:=(!decide ((s.1.2.2.2.1:af)=[]))
     match bi (t1,s.1,()) with
     |none=>none
     |some (.inl z2)=>
      match j5 (z2.1,()) with
      |none=>none
      |some (.inl z3)=>
       some (z3.1,())
      |some (.inr z3)=>
       none
     |some (.inr z2)=>
      some (z2.1,())
    else
     match bi (false,s.1,()) with
     |none=>none
     |some (.inl aH)=>
      match j5 (aH.1,()) with
      |none=>none
      |some (.inl z2)=>
       some (z2.1,())
      |some (.inr z2)=>
       none
     |some (.inr aH)=>
      some (aH.1,())
def Zk (s:iw×Unit):Option hh:=
 match X8 (s.1,()) with
 |none=>none
 |some aj=>
  bif !aj.1 then
   some ([],12,())
  else
   bif decide (s.1.2.1=1) then
    bif decide (List.length s.1.1+List.length ([1]:af)<=bm) then
     some ((s.1.1++([1]:af)),0,())
    else none
   else
    bif decide (s.1.2.1=2) then
     bif decide (List.length s.1.1+List.length ([2]:af)<=bm) then
      let t1:=i64.wrap (Int.tdiv s.1.2.2.1 256)
      let t2:=(IntKind.u8.wrap (Int.tmod s.1.2.2.1 256))
      let t3:af:=(rV ([(IntKind.u8.wrap t1),t2]:List Int))
      bif (decide (List.length (s.1.1++([2]:af))+List.length t3<=bm)) then
       some (((s.1.1++([2]:af))++t3),0,())
      else none
     else none
    else
     bif decide (s.1.2.1=3) then
      bif decide (List.length s.1.1+List.length ([3]:af)<=bm) then
       bif (decide (List.length (s.1.1++([3]:af))+List.length s.1.2.2.2.1<=bm)) then
        let t1:af:=((s.1.1++([3]:af))++s.1.2.2.2.1)
        some (t1,0,())
       else none
      else none
     else
      bif decide (List.length ([6]:af)+List.length s.1.1<=bm) then
       bif (decide (List.length (([6]:af)++s.1.1)+List.length ([1]:af)<=bm)) then
        let t1:af:=((([6]:af)++s.1.1)++([1]:af))
        some (t1,0,())
       else none
      else none
def SP (s:af×Int×Bool×af×Int×Int×af×Unit):Option (H8⊕((Int×iw×Unit)⊕iw)):=
 bif s.2.2.1 then
  some (.inl (s.1,(i64.wrap (s.2.1+1)),s.2.2.2.1,s.2.2.2.2.1,s.2.2.2.2.2.1,s.2.2.2.2.2.2.1,()))
 else
  match X7 (s.1,s.2.1,()) with
  |none=>none
  |some aj=>
   match Zk (aj.1,()) with
   |none=>none
   |some au=>
    bif decide (au.2.1=0) then
     bif decide ((au.1:af)=s.1) then
      some (.inr (.inl (0,aj.1,())))
     else
      some (.inl (s.1,(i64.wrap (s.2.1+1)),s.2.2.2.1,s.2.2.2.2.1,s.2.2.2.2.2.1,s.2.2.2.2.2.2.1,()))
    else
     some (.inl (s.1,(i64.wrap (s.2.1+1)),s.2.2.2.1,s.2.2.2.2.1,s.2.2.2.2.2.1,s.2.2.2.2.2.2.1,()))
def U0 (s:H8):Option (H8⊕((Int×iw×Unit)⊕iw)):=
 let t0:=(decide (s.2.1<((List.length s.1):Int)))
 bif t0 then
  bif decide (0<=s.2.1)&&decide (s.2.1<(List.length s.1:Int)) then
   let t1:Int:=((List.getD s.1 (Int.toNat s.2.1) 0).toNat:Int)
   bif (!(decide (t1<1))) then
    bif decide (0<=s.2.1)&&decide (s.2.1<(List.length s.1:Int)) then
     let t2:Int:=((List.getD s.1 (Int.toNat s.2.1) 0).toNat:Int)
     SP (s.1,s.2.1,(decide (t2>3)),s.2.2.1,s.2.2.2.1,s.2.2.2.2.1,s.2.2.2.2.2.1,())
    else none
   else
    SP (s.1,s.2.1,true,s.2.2.1,s.2.2.2.1,s.2.2.2.2.1,s.2.2.2.2.2.1,())
  else none
 else
  some (.inr (.inr (s.2.2.1,s.2.2.2.1,s.2.2.2.2.1,s.2.2.2.2.2.1,())))
def U2:=bN U0
def tJ (s:af×Unit):Option (iw×Int×Unit):=
 match U2 (s.1,0,[],0,0,[],()) with
 |none=>none
 |some (.inl z0)=>
  some (z0.2.1,z0.1,())
 |some (.inr z0)=>
  some (([],(0,(0,([],())))),12,())
def Bv (s:af×Unit):Option (Bool×Unit):=
 match tJ (s.1,()) with
 |none=>none
 |some aj=>
  bif decide (aj.2.1=0) then
   some ((decide (aj.1.2.1=1)),())
  else
   some (false,())
def w5 (s:ly×Int×Unit):Option tW:=
 let t0:Int:=(if ((i64.wrap (s.1.2.1+s.2.1)):Int)<1000000000000000 then (i64.wrap (s.1.2.1+s.2.1)) else 1000000000000000)
 some ((s.1.1,(t0,())),())
def BV (s:ly×Int×Unit):Option tW:=
 let t0:Int:=(if (0:Int)<(i64.wrap (s.1.1-s.2.1)) then (i64.wrap (s.1.1-s.2.1)) else 0)
 some ((t0,(s.1.2.1,())),())
def GW (s:af×af×Bool×Bool×Unit):Option (Bool×Unit):=
 bif !s.2.2.1 then
  bif !s.2.2.2.1 then
   match Hq (s.1,()) with
   |none=>none
   |some aj=>
    bif aj.1 then
     match Hq (s.2.1,()) with
     |none=>none
     |some au=>
      some (au.1,())
    else
     some (false,())
  else
   some (true,())
 else
  some (true,())
def GV (s:xU):Option (Bool×Unit):=
 let t0:=(!decide ((s.1:af)=[]))
 bif t0 then
  let t1:=(!decide ((s.2.1:af)=[]))
  bif t1 then
   match BS (s.1,()) with
   |none=>none
   |some aL=>
    bif aL.1 then
     match BS (s.2.1,()) with
     |none=>none
     |some bF=>
      GW (s.1,s.2.1,s.2.2.1,bF.1,())
    else
     GW (s.1,s.2.1,s.2.2.1,false,())
  else
   GW (s.1,s.2.1,s.2.2.1,false,())
 else
  GW (s.1,s.2.1,s.2.2.1,false,())
def Bb (s:ah):Option (Bool×Unit):=
 let t0:=(decide ((((List.length s.1):Int):Int)>0))
 bif t0 then
  bif decide ((0:Int)<(List.length s.1:Int)) then
   let t1:=(decide ((((List.getD s.1 0 0).toNat:Int):Int)=6))
   bif t1 then
    let t2:=(decide ((((List.length s.2.1):Int):Int)>0))
    bif t2 then
     bif decide ((0:Int)<(List.length s.2.1:Int)) then
      let t3:=(decide ((((List.getD s.2.1 0 0).toNat:Int):Int)=6))
      GV (s.1,s.2.1,t3,())
     else none
    else
     GV (s.1,s.2.1,false,())
   else
    GV (s.1,s.2.1,false,())
  else none
 else
  GV (s.1,s.2.1,false,())
def Hs (s:dX×a6×Unit):Option (dX×Unit):=
 bif decide (s.2.1.1=1) then
  match Bv (s.2.1.2.1,()) with
  |none=>none
  |some aj=>
   bif aj.1 then
    match w5 (s.1.1,1,()) with
    |none=>none
    |some au=>
     some ((au.1,(s.1.2.1,())),())
   else
    match BV (s.1.2.1,64,()) with
    |none=>none
    |some au=>
     match w5 (au.1,((List.length s.2.1.2.2.1):Int),()) with
     |none=>none
     |some aL=>
      some ((s.1.1,(aL.1,())),())
 else
  bif decide (s.2.1.1=2) then
   match Bv (s.2.1.2.1,()) with
   |none=>none
   |some aj=>
    bif aj.1 then
     match BV (s.1.1,1,()) with
     |none=>none
     |some au=>
      some ((au.1,(s.1.2.1,())),())
    else
     match BV (s.1.2.1,64,()) with
     |none=>none
     |some au=>
      some ((s.1.1,(au.1,())),())
  else
   bif decide (s.2.1.1=6) then
    some (s.1,())
   else
    bif decide (s.2.1.1=3) then
     some (((0,(s.1.1.2.1,())),((0,(s.1.2.1.2.1,())),())),())
    else
     match Bb (s.2.1.2.2.2.2.1,s.2.1.2.2.2.2.2.1,()) with
     |none=>none
     |some aj=>
      bif !aj.1 then
       some (((0,(1000000000000000,())),((0,(1000000000000000,())),())),())
      else
       bif decide (s.2.1.1=5) then
        match w5 ((0,(s.1.1.2.1,())),s.1.1.2.1,()) with
        |none=>none
        |some au=>
         match w5 ((0,(s.1.2.1.2.1,())),s.1.2.1.2.1,()) with
         |none=>none
         |some aL=>
          some ((au.1,(aL.1,())),())
       else
        some (((0,(s.1.1.2.1,())),((0,(s.1.2.1.2.1,())),())),())
def Hr (s:ak×Unit):Option tW:=
 match tJ (s.1.1,()) with
 |none=>none
 |some aj=>
  bif (!decide (aj.2.1=0)) then
   some ((0,(0,())),())
  else
   bif decide (aj.1.2.1=1) then
    some ((1,(0,())),())
   else
    bif decide (aj.1.2.1=2) then
     some ((0,(((List.length s.1.2.1):Int),())),())
    else
     bif decide (aj.1.2.1=3) then
      some ((0,(((List.length s.1.2.1):Int),())),())
     else
      some ((0,(0,())),())
def A8 (s:List ak×Int×Int×Int×Int×Int×Unit):Option ((List ak×Int×Int×Int×Int×Int×Unit)⊕((Int×Int×Int×Int×Unit)⊕Unit)):=
 let t0:=(decide (s.2.1<((List.length s.1):Int)))
 bif t0 then
  bif decide (0<=s.2.1)&&decide (s.2.1<(List.length s.1:Int)) then
   let t1:=(List.getD s.1 (Int.toNat s.2.1) ([],([],(0,()))))
   match Hr (t1,()) with
   |none=>none
   |some aL=>
    let t3:=i64.wrap (s.2.2.2.2.1+aL.1.1)
    let t4:=i64.wrap (s.2.2.2.2.2.1+aL.1.2.1)
    some (.inl (s.1,(i64.wrap (s.2.1+1)),s.2.2.1,s.2.2.2.1,t3,t4,()))
  else none
 else
  some (.inr (.inl (s.2.2.1,s.2.2.2.1,s.2.2.2.2.1,s.2.2.2.2.2.1,())))
def Iq:=bN A8
def abs (s:List ak×Unit):Option tW:=
 match Iq (s.1,0,0,0,0,0,()) with
 |none=>none
 |some (.inl z0)=>
  some ((z0.2.2.1,(z0.2.2.2.1,())),())
 |some (.inr z0)=>
  none
def Kn (s:tW):Option (dX×Unit):=
 some (((s.1.1,(s.1.1,())),((s.1.2.1,(s.1.2.1,())),())),())
def BC (s:CG):Option (CG⊕((bs×Int×Int×Int×Int×dX×Unit)⊕Unit)):=
 let t0:=(decide (s.1<((List.length s.2.1.2.2.2.1):Int)))
 bif t0 then
  bif decide (0<=s.1)&&decide (s.1<(List.length s.2.1.2.2.2.1:Int)) then
   let t1:=(List.getD s.2.1.2.2.2.1 (Int.toNat s.1) ((0,(0,())),((0,(0,())),())))
   match KQ (s.2.2.2.2.2.2.1,t1,()) with
   |none=>none
   |some aL=>
    some (.inl ((i64.wrap (s.1+1)),s.2.1,s.2.2.1,s.2.2.2.1,s.2.2.2.2.1,s.2.2.2.2.2.1,aL.1,()))
  else none
 else
  some (.inr (.inl (s.2.1,s.2.2.1,s.2.2.2.1,s.2.2.2.2.1,s.2.2.2.2.2.1,s.2.2.2.2.2.2.1,())))
def JT:=bN BC
def BD (s:CG):Option (CG⊕((Int×Int×Int×Int×dX×Unit)⊕Unit)):=
 let t0:=(decide (s.1<((List.length s.2.1.2.2.2.2.1):Int)))
 bif t0 then
  bif decide (0<=s.1)&&decide (s.1<(List.length s.2.1.2.2.2.2.1:Int)) then
   let t1:=(List.getD s.2.1.2.2.2.2.1 (Int.toNat s.1) (0,([],([],(([],([],())),([],([],(0,()))))))))
   match Hs (s.2.2.2.2.2.2.1,t1,()) with
   |none=>none
   |some aL=>
    some (.inl ((i64.wrap (s.1+1)),s.2.1,s.2.2.1,s.2.2.2.1,s.2.2.2.2.1,s.2.2.2.2.2.1,aL.1,()))
  else none
 else
  some (.inr (.inl (s.2.2.1,s.2.2.2.1,s.2.2.2.2.1,s.2.2.2.2.2.1,s.2.2.2.2.2.2.1,())))
def JU:=bN BD
def pV (s:bs×Unit):Option (dX×Unit):=
 let t0:=(decide ((((List.length s.1.2.2.1):Int):Int)=0))
 bif t0 then
  match abs (s.1.1,()) with
  |none=>none
  |some au=>
   match Kn (au.1,()) with
   |none=>none
   |some aL=>
    some (aL.1,())
 else
  match JT (0,s.1,0,0,0,0,((0,(0,())),((0,(0,())),())),()) with
  |none=>none
  |some (.inl aH)=>
   match JU (0,aH.1,aH.2.1,aH.2.2.1,aH.2.2.2.1,aH.2.2.2.2.1,aH.2.2.2.2.2.1,()) with
   |none=>none
   |some (.inl z2)=>
    some (z2.2.2.2.2.1,())
   |some (.inr z2)=>
    none
  |some (.inr aH)=>
   none
def Hi (s:Int×List cY×Unit):Option (Bool×List cY×Unit):=
 bif decide (s.1>=0) then
  let t0:=(decide (s.1<((List.length s.2.1):Int)))
  bif t0 then
   bif decide (0<=s.1)&&decide (s.1<(List.length s.2.1:Int)) then
    let t1:=(List.getD s.2.1 (Int.toNat s.1) (false,(false,(0,(([],([],([],([],([],()))))),())))))
    some (t1.1,s.2.1,())
   else none
  else
   some (false,s.2.1,())
 else
  some (false,s.2.1,())
def Bw (s:List Int×List cY×List cY×Unit):Option ((List Int×List cY×List cY×Unit)⊕((List cY×List cY×Unit)⊕Unit)):=
 let t0:=(decide ((((List.length s.1):Int):Int)>0))
 bif t0 then
  bif decide ((0:Int)<(List.length s.1:Int)) then
   bif (decide ((1:Int)<=(List.length s.1:Int))&&decide (((List.length s.1:Int):Int)<=(List.length s.1:Int))) then
    let t1:=(List.drop (Int.toNat 1) (List.take (Int.toNat (List.length s.1:Int)) s.1))
    match Hi ((List.getD s.1 0 0),s.2.2.1,()) with
    |none=>none
    |some aL=>
     bif !aL.1 then
      some (.inl (t1,s.2.1,aL.2.1,()))
     else
      bif (decide (0<=(List.getD s.1 0 0))&&decide (((List.getD s.1 0 0):Int)<(List.length aL.2.1:Int))) then
       let t3:=(List.getD aL.2.1 (Int.toNat (List.getD s.1 0 0)) (false,(false,(0,(([],([],([],([],([],()))))),())))))
       let t4:=i64.wrap (t3.2.2.1-1)
       bif (decide (0<=(List.getD s.1 0 0))&&decide (((List.getD s.1 0 0):Int)<(List.length aL.2.1:Int))) then
        let t5:=(List.set aL.2.1 (Int.toNat (List.getD s.1 0 0)) ((List.getD aL.2.1 (Int.toNat (List.getD s.1 0 0)) (false,(false,(0,(([],([],([],([],([],()))))),()))))).1,((List.getD aL.2.1 (Int.toNat (List.getD s.1 0 0)) (false,(false,(0,(([],([],([],([],([],()))))),()))))).2.1,(t4,(List.getD aL.2.1 (Int.toNat (List.getD s.1 0 0)) (false,(false,(0,(([],([],([],([],([],()))))),()))))).2.2.2))))
        bif (decide (0<=(List.getD s.1 0 0))&&decide (((List.getD s.1 0 0):Int)<(List.length t5:Int))) then
         let t6:=(List.getD t5 (Int.toNat (List.getD s.1 0 0)) (false,(false,(0,(([],([],([],([],([],()))))),())))))
         bif decide (t6.2.2.1=0) then
          bif (decide ((List.length ([]:List Int)+List.length t1)*8<=bm)) then
           bif (decide (0<=(List.getD s.1 0 0))&&decide (((List.getD s.1 0 0):Int)<(List.length t5:Int))) then
            let t7:=(List.getD t5 (Int.toNat (List.getD s.1 0 0)) (false,(false,(0,(([],([],([],([],([],()))))),())))))
            bif (decide ((List.length ([]++t1)+List.length t7.2.2.2.1.2.2.1)*8<=bm)) then
             let t8:List Int:=(([]++t1)++t7.2.2.2.1.2.2.1)
             bif (decide (0<=(List.getD s.1 0 0))&&decide (((List.getD s.1 0 0):Int)<(List.length t5:Int))) then
              let t9:=(List.set t5 (Int.toNat (List.getD s.1 0 0)) (false,(false,(0,(([],([],([],([],([],()))))),())))))
              some (.inl (t8,s.2.1,t9,()))
             else none
            else none
           else none
          else none
         else
          some (.inl (t1,s.2.1,t5,()))
        else none
       else none
      else none
   else none
  else none
 else
  some (.inr (.inl (s.2.1,s.2.2.1,())))
def Jp:=bN Bw
def xl (s:dS):Option dS:=
 match xm (s.1,s.2.1,()) with
 |none=>none
 |some aj=>
  bif !aj.1 then
   some (s.1,110,())
  else
   match BH (s.1,()) with
   |none=>none
   |some au=>
    match Jp (([s.2.1]:List Int),[],au.1,()) with
    |none=>none
    |some (.inl z2)=>
     some ((z2.2.1,()),0,())
    |some (.inr z2)=>
     none
def xw (s:dS):Option (Bool×Unit):=
 bif decide (s.2.1>=0) then
  let t0:=(decide (s.2.1<((List.length s.1.1):Int)))
  bif t0 then
   bif decide (0<=s.2.1)&&decide (s.2.1<(List.length s.1.1:Int)) then
    let t1:=(List.getD s.1.1 (Int.toNat s.2.1) (false,(false,(0,(([],([],([],([],([],()))))),())))))
    some (t1.1,())
   else none
  else
   some (false,())
 else
  some (false,())
def kh (s:dS):Option (bs×Int×Unit):=
 match xw (s.1,s.2.1,()) with
 |none=>none
 |some aj=>
  bif !aj.1 then
   some (([],([],([],([],([],()))))),110,())
  else
   bif decide (0<=s.2.1)&&decide (s.2.1<(List.length s.1.1:Int)) then
    let t1:=(List.getD s.1.1 (Int.toNat s.2.1) (false,(false,(0,(([],([],([],([],([],()))))),())))))
    bif t1.2.1 then
     some (([],([],([],([],([],()))))),112,())
    else
     bif decide (0<=s.2.1)&&decide (s.2.1<(List.length s.1.1:Int)) then
      let t2:=(List.getD s.1.1 (Int.toNat s.2.1) (false,(false,(0,(([],([],([],([],([],()))))),())))))
      some (t2.2.2.2.1,0,())
     else none
   else none
def AM (s:af×Unit):Option (Bool×Unit):=
 some ((!decide ((s.1:af)=s.1)),())
def FX (s:ah):Option (Int×Unit):=
 match AM (s.1,()) with
 |none=>none
 |some aj=>
  match AM (s.2.1,()) with
  |none=>none
  |some au=>
   bif aj.1 then
    bif au.1 then
     some (0,())
    else
     some ((-1:Int),())
   else
    bif au.1 then
     some (1,())
    else
     bif (Op.bytesLess s.1 s.2.1) then
      some ((-1:Int),())
     else
      let t2:=(!(Op.bytesLess s.1 s.2.1||decide ((s.1:af)=s.2.1)))
      bif t2 then
       some (1,())
      else
       some (0,())
def wy (s:ah):Option (Int×Unit):=
 bif decide ((s.1:af)=s.2.1) then
  some (0,())
 else
  let t0:=decide ((s.1:af)=[])
  bif t0 then
   some (1,())
  else
   let t1:=decide ((s.2.1:af)=[])
   bif t1 then
    some ((-1:Int),())
   else
    match FX (s.1,s.2.1,()) with
    |none=>none
    |some aL=>
     some (aL.1,())
def vh (s:(List af)×af×Int×Unit):Option (((List af)×af×Int×Unit)⊕((af×Unit)⊕Unit)):=
 let t0:=(decide (s.2.2.1<((List.length s.1):Int)))
 bif t0 then
  bif decide (0<=s.2.2.1)&&decide (s.2.2.1<(List.length s.1:Int)) then
   let t1:=(List.getD s.1 (Int.toNat s.2.2.1) [])
   match wy (t1,s.2.1,()) with
   |none=>none
   |some aL=>
    bif decide (aL.1<0) then
     bif decide (0<=s.2.2.1)&&decide (s.2.2.1<(List.length s.1:Int)) then
      let t3:=(List.getD s.1 (Int.toNat s.2.2.1) [])
      some (.inl (s.1,t3,(i64.wrap (s.2.2.1+1)),()))
     else none
    else
     some (.inl (s.1,s.2.1,(i64.wrap (s.2.2.1+1)),()))
  else none
 else
  some (.inr (.inl (s.2.1,())))
def Nb:=bN vh
def OL (s:(List af)×Unit):Option (af×Unit):=
 let t0:=(decide ((((List.length s.1):Int):Int)<1))
 bif t0 then
  none
 else
  bif decide ((0:Int)<(List.length s.1:Int)) then
   match Nb (s.1,(List.getD s.1 0 []),1,()) with
   |none=>none
   |some (.inl aH)=>
    some (aH.1,())
   |some (.inr aH)=>
    none
  else none
def Db (s:(List af)×Unit):Option (af×Unit):=
 match OL (s.1,()) with
 |none=>none
 |some aj=>
  some (aj.1,())
def j8 (s:ah×Unit):Option (Bool×Unit):=
 let t0:=(!decide ((s.1.2.1:af)=[]))
 bif t0 then
  let t1:=(Op.bytesLess s.1.2.1 s.1.1||decide ((s.1.2.1:af)=s.1.1))
  some (t1,())
 else
  some (false,())
def rP (s:sa):Option (ah×Unit):=
 let t0:af:=(bif !(Op.bytesLess s.1.1 s.2.1.1) then s.1.1 else s.2.1.1)
 match Db (([s.1.2.1,s.2.1.2.1]:List af),()) with
 |none=>none
 |some au=>
  match j8 ((t0,(au.1,())),()) with
  |none=>none
  |some aL=>
   bif aL.1 then
    some ((([97]:af),(([97]:af),())),())
   else
    some ((t0,(au.1,())),())
def WV (s:Rs):Option (Rs⊕((af×ah×List ah×Unit)⊕Unit)):=
 bif decide (s.2.2.2.1<s.2.2.1) then
  bif decide (0<=s.2.2.2.1)&&decide (s.2.2.2.1<(List.length s.2.1:Int)) then
   let t0:=(List.getD s.2.1 (Int.toNat s.2.2.2.1) [])
   match rP (s.2.2.2.2.1,(s.1,(t0,())),()) with
   |none=>none
   |some au=>
    bif (decide ((List.length s.2.2.2.2.2.1+List.length ([au.1]:List ah))*32<=bm)) then
     let t2:List ah:=(s.2.2.2.2.2.1++([au.1]:List ah))
     let t3:=i64.wrap (s.2.2.2.1+1)
     some (.inl (t0,s.2.1,s.2.2.1,t3,s.2.2.2.2.1,t2,()))
    else none
  else none
 else
  some (.inr (.inl (s.1,s.2.2.2.2.1,s.2.2.2.2.2.1,())))
def WX:=bN WV
def pW (s:ah×(List af)×Unit):Option (List ah×Unit):=
 match WX ([],s.2.1,((List.length s.2.1):Int),0,s.1,[],()) with
 |none=>none
 |some (.inl z0)=>
  match rP (z0.2.1,(z0.1,([],())),()) with
  |none=>none
  |some au=>
   bif (decide ((List.length z0.2.2.1+List.length ([au.1]:List ah))*32<=bm)) then
    let t2:List ah:=(z0.2.2.1++([au.1]:List ah))
    some (t2,())
   else none
 |some (.inr z0)=>
  none
def yb (s:xY):Option (List ah×Unit):=
 let t0:=(decide ((((List.length s.1.2.2.1):Int):Int)=0))
 bif t0 then
  some ([],())
 else
  match pW (s.2.1,s.1.2.1,()) with
  |none=>none
  |some au=>
   some (au.1,())
def oz (s:af×Unit):Option (ah×Unit):=
 bif decide (List.length s.1+List.length ([0]:af)<=bm) then
  some ((s.1,((s.1++([0]:af)),())),())
 else none
def IK (s:a6×Unit):Option (List ah×Unit):=
 match oz (s.1.2.1,()) with
 |none=>none
 |some aj=>
  some (([aj.1]:List ah),())
def IE (s:a6×Unit):Option (List ah×Unit):=
 match oz (s.1.2.1,()) with
 |none=>none
 |some aj=>
  some (([aj.1]:List ah),())
def Qs (s:a6×Unit):Option (List ah×Unit):=
 some (([s.1.2.2.2.1]:List ah),())
def SR (s:af×Bool×af×af×List Int×Unit):Option (xW⊕(xW⊕Unit)):=
 bif s.2.1 then
  let t0:=(i64.wrap (((List.length s.2.2.2.2.1):Int)-1))
  bif decide ((0:Int)<=t0)&&decide (t0<=(List.length s.2.2.2.2.1:Int)) then
   some (.inl (s.1,s.2.2.1,s.2.2.2.1,(List.take (Int.toNat t0) s.2.2.2.2.1),()))
  else none
 else
  some (.inr (.inl (s.1,s.2.2.1,s.2.2.2.1,s.2.2.2.2.1,())))
def Vj (s:xW):Option (xW⊕(xW⊕Unit)):=
 let t0:=(decide ((((List.length s.2.2.2.1):Int):Int)>0))
 bif t0 then
  let t1:=(i64.wrap (((List.length s.2.2.2.1):Int)-1))
  bif decide (0<=t1)&&decide (t1<(List.length s.2.2.2.1:Int)) then
   let t2:=(List.getD s.2.2.2.1 (Int.toNat t1) 0)
   SR (s.1,(decide (t2=255)),s.2.1,s.2.2.1,s.2.2.2.1,())
  else none
 else
  SR (s.1,false,s.2.1,s.2.2.1,s.2.2.2.1,())
def Vl:=bN Vj
def kT (s:af×Unit):Option (ah×Unit):=
 bif decide (List.length s.1<=bm) then
  match Vl (s.1,[],[],(iC s.1),()) with
  |none=>none
  |some (.inl z0)=>
   let t1:=(decide ((((List.length z0.2.2.2.1):Int):Int)>0))
   bif t1 then
    let t2:=(i64.wrap (((List.length z0.2.2.2.1):Int)-1))
    bif decide (0<=t2)&&decide (t2<(List.length z0.2.2.2.1:Int)) then
     let t3:=(List.getD z0.2.2.2.1 (Int.toNat t2) 0)
     bif decide (0<=t2)&&decide (t2<(List.length z0.2.2.2.1:Int)) then
      let t4:=(List.set z0.2.2.2.1 (Int.toNat t2) (IntKind.u8.wrap (t3+1)))
      some ((z0.1,((rV t4),())),())
     else none
    else none
   else
    some ((z0.1,((rV z0.2.2.2.1),())),())
  |some (.inr z0)=>
   none
 else none
def Qt (s:a6×Unit):Option (List ah×Unit):=
 match kT (s.1.2.2.2.2.1,()) with
 |none=>none
 |some aj=>
  match kT (s.1.2.2.2.2.2.1,()) with
  |none=>none
  |some au=>
   some (([aj.1,au.1]:List ah),())
def PX (s:a6×Unit):Option (List ah×Unit):=
 match kT (s.1.2.2.2.2.2.1,()) with
 |none=>none
 |some aj=>
  some (([aj.1]:List ah),())
def PY (s:a6×Unit):Option (List ah×Unit):=
 some (([s.1.2.2.2.1]:List ah),())
def om (s:a6×Unit):Option (List ah×Unit):=
 bif decide (s.1.1=1) then
  match IK (s.1,()) with
  |none=>none
  |some aj=>
   some (aj.1,())
 else
  bif decide (s.1.1=2) then
   match IE (s.1,()) with
   |none=>none
   |some aj=>
    some (aj.1,())
  else
   bif decide (s.1.1=3) then
    match Qs (s.1,()) with
    |none=>none
    |some aj=>
     some (aj.1,())
   else
    bif decide (s.1.1=4) then
     match Qt (s.1,()) with
     |none=>none
     |some aj=>
      some (aj.1,())
    else
     bif decide (s.1.1=5) then
      match PX (s.1,()) with
      |none=>none
      |some aj=>
       some (aj.1,())
     else
      bif decide (s.1.1=6) then
       match PY (s.1,()) with
       |none=>none
       |some aj=>
        some (aj.1,())
      else
       some ([],())
def rQ (s:bs×Unit):Option (Bool×Unit):=
 let t0:=(decide ((((List.length s.1.2.2.1):Int):Int)=0))
 some (t0,())
def OW (s:ah):Option (Int×Unit):=some ((fun a b=>Lib.compareBytes a b) s.1 s.2.1,())
def Qg (s:ah):Option (Int×Unit):=
 match OW (s.1,s.2.1,()) with
 |none=>none
 |some aj=>
  some (aj.1,())
def Bj (s:ak×af×Unit):Option (Int×Unit):=
 match Qg (s.1.1,s.2.1,()) with
 |none=>none
 |some aj=>
  some (aj.1,())
def Ew (s:List ak×af×Int×Int×Int×Unit):Option ((List ak×af×Int×Int×Int×Unit)⊕((List ak×af×Int×Int×Unit)⊕Unit)):=
 let t0:=decide (s.2.2.2.1<s.2.2.2.2.1)
 bif t0 then
  let t1:=i64.wrap (s.2.2.2.1+s.2.2.2.2.1)
  let t2:Int:=(Int.fdiv (IntKind.u64.wrap t1) (2^(min (Int.toNat 1) IntKind.u64.bits)))
  bif (decide (0<=(i64.wrap t2))&&decide (((i64.wrap t2):Int)<(List.length s.1:Int))) then
   let t3:=(List.getD s.1 (Int.toNat (i64.wrap t2)) ([],([],(0,()))))
   match Bj (t3,s.2.1,()) with
   |none=>none
   |some cN=>
    bif decide (cN.1<0) then
     let t5:=i64.wrap ((i64.wrap t2)+1)
     some (.inl (s.1,s.2.1,s.2.2.1,t5,s.2.2.2.2.1,()))
    else
     some (.inl (s.1,s.2.1,s.2.2.1,s.2.2.2.1,(i64.wrap t2),()))
  else none
 else
  some (.inr (.inl (s.1,s.2.1,s.2.2.1,s.2.2.2.1,())))
def Mu:=bN Ew
def Ex (s:xX):Option CJ:=
 match Mu (s.1,s.2.1,((List.length s.1):Int),0,((List.length s.1):Int),()) with
 |none=>none
 |some (.inl z0)=>
  bif decide (z0.2.2.2.1<z0.2.2.1) then
   bif decide (0<=z0.2.2.2.1)&&decide (z0.2.2.2.1<(List.length z0.1:Int)) then
    let t1:=(List.getD z0.1 (Int.toNat z0.2.2.2.1) ([],([],(0,()))))
    match Bj (t1,z0.2.1,()) with
    |none=>none
    |some aL=>
     some (z0.2.2.2.1,(decide (aL.1=0)),())
   else none
  else
   some (z0.2.2.2.1,false,())
 |some (.inr z0)=>
  none
def tK (s:xX):Option CJ:=
 match Ex (s.1,s.2.1,()) with
 |none=>none
 |some aj=>
  some (aj.1,aj.2.1,())
def Dc (s:xX):Option (ak×Bool×Unit):=
 match tK (s.1,s.2.1,()) with
 |none=>none
 |some aj=>
  bif aj.2.1 then
   bif decide (0<=aj.1)&&decide (aj.1<(List.length s.1:Int)) then
    let t1:=(List.getD s.1 (Int.toNat aj.1) ([],([],(0,()))))
    some (t1,true,())
   else none
  else
   some (([],([],(0,()))),false,())
def zE (s:List a6×Unit):Option (List a6×Unit):=
 some (s.1,())
def pZ (s:H9):Option (Bool×Unit):=
 bif (!(Op.bytesLess s.2.1 s.1.1)) then
  let t0:=decide ((s.1.2.1:af)=[])
  bif !t0 then
   some ((Op.bytesLess s.2.1 s.1.2.1),())
  else
   some (true,())
 else
  some (false,())
def xh (s:Int×Bool×Bool×af×af×Int×af×Bool×Int×Unit):Option (Bool×Bool×af×af×Int×af×Bool×Int×Unit):=
 bif !s.2.2.2.2.2.2.2.1 then
  some (s.2.1,s.2.2.1,s.2.2.2.1,s.2.2.2.2.1,s.2.2.2.2.2.1,s.2.2.2.2.2.2.1,true,s.1,())
 else
  some (s.2.1,s.2.2.1,s.2.2.2.1,s.2.2.2.2.1,s.2.2.2.2.2.1,s.2.2.2.2.2.2.1,s.2.2.2.2.2.2.2.1,s.2.2.2.2.2.2.2.2.1,())
def Bm (s:ur):Option (Bool×Bool×Bool×af×af×Int×af×Bool×Int×Unit):=
 match pZ (s.1.2.2.2.1,s.2.2.2.2.2.2.1,()) with
 |none=>none
 |some aj=>
  bif aj.1 then
   match xh (s.1.2.2.2.2.2.2.1,s.2.1,s.2.2.1,s.2.2.2.1,s.2.2.2.2.1,s.2.2.2.2.2.1,s.2.2.2.2.2.2.1,s.2.2.2.2.2.2.2.1,s.2.2.2.2.2.2.2.2.1,()) with
   |none=>none
   |some au=>
    some (false,au.1,au.2.1,au.2.2.1,au.2.2.2.1,au.2.2.2.2.1,au.2.2.2.2.2.1,au.2.2.2.2.2.2.1,au.2.2.2.2.2.2.2.1,())
  else
   some (false,s.2.1,s.2.2.1,s.2.2.2.1,s.2.2.2.2.1,s.2.2.2.2.2.1,s.2.2.2.2.2.2.1,s.2.2.2.2.2.2.2.1,s.2.2.2.2.2.2.2.2.1,())
def o5 (s:ah):Option (Bool×Unit):=
 let t0:=(decide ((((List.length s.1):Int):Int)>=((List.length s.2.1):Int)))
 bif t0 then
  bif (decide ((0:Int)<=((List.length s.2.1):Int))&&decide ((((List.length s.2.1):Int):Int)<=(List.length s.1:Int))) then
   let t1:=(List.drop 0 (List.take (Int.toNat ((List.length s.2.1):Int)) s.1))
   some ((decide ((t1:af)=s.2.1)),())
  else none
 else
  some (false,())
def OX (s:ah):Option uB:=
 match o5 (s.1,s.2.1,()) with
 |none=>none
 |some aj=>
  bif !aj.1 then
   some (s.1,false,())
  else
   bif (decide (0<=((List.length s.2.1):Int))&&decide ((((List.length s.2.1):Int):Int)<=(List.length s.1:Int))&&decide (((List.length s.1:Int):Int)<=(List.length s.1:Int))) then
    let t1:=(List.drop (Int.toNat ((List.length s.2.1):Int)) (List.take (Int.toNat (List.length s.1:Int)) s.1))
    some (t1,true,())
   else none
def qr (s:ah):Option uB:=
 match OX (s.1,s.2.1,()) with
 |none=>none
 |some aj=>
  some (aj.1,aj.2.1,())
def rC (s:af×af×af×Unit):Option uB:=
 match qr (s.1,s.2.1,()) with
 |none=>none
 |some aj=>
  bif !aj.2.1 then
   some ([],false,())
  else
   bif decide (List.length s.2.2.1+List.length aj.1<=bm) then
    some ((s.2.2.1++aj.1),true,())
   else none
def rE (s:ur):Option (Bool×Bool×Bool×af×af×Int×af×Bool×Int×Unit):=
 match rC (s.2.2.2.2.2.2.1,s.1.2.2.2.2.2.1,s.1.2.2.2.2.1,()) with
 |none=>none
 |some aj=>
  bif aj.2.1 then
   some (false,s.2.1,s.2.2.1,s.2.2.2.1,s.2.2.2.2.1,s.2.2.2.2.2.1,aj.1,s.2.2.2.2.2.2.2.1,s.2.2.2.2.2.2.2.2.1,())
  else
   some (false,s.2.1,s.2.2.1,s.2.2.2.1,s.2.2.2.2.1,s.2.2.2.2.2.1,s.2.2.2.2.2.2.1,s.2.2.2.2.2.2.2.1,s.2.2.2.2.2.2.2.2.1,())
def tf (s:ah):Option (Bool×Unit):=
 match o5 (s.1,s.2.1,()) with
 |none=>none
 |some aj=>
  some (aj.1,())
def Bl (s:ur):Option (Bool×Bool×Bool×af×af×Int×af×Bool×Int×Unit):=
 match tf (s.2.2.2.2.2.2.1,s.1.2.2.2.2.1,()) with
 |none=>none
 |some aj=>
  bif !aj.1 then
   match rE (s.1,s.2.1,s.2.2.1,s.2.2.2.1,s.2.2.2.2.1,s.2.2.2.2.2.1,s.2.2.2.2.2.2.1,s.2.2.2.2.2.2.2.1,s.2.2.2.2.2.2.2.2.1,()) with
   |none=>none
   |some au=>
    some (au.1,au.2.1,au.2.2.1,au.2.2.2.1,au.2.2.2.2.1,au.2.2.2.2.2.1,au.2.2.2.2.2.2.1,au.2.2.2.2.2.2.2.1,au.2.2.2.2.2.2.2.2.1,())
  else
   some (true,s.2.1,s.2.2.1,s.2.2.2.1,s.2.2.2.2.1,s.2.2.2.2.2.1,s.2.2.2.2.2.2.1,s.2.2.2.2.2.2.2.1,s.2.2.2.2.2.2.2.2.1,())
def Bk (s:ur):Option (Bool×Bool×Bool×af×af×Int×af×Bool×Int×Unit):=
 match pZ (s.1.2.2.2.1,s.2.2.2.2.2.2.1,()) with
 |none=>none
 |some aj=>
  some (aj.1,s.2.1,s.2.2.1,s.2.2.2.1,s.2.2.2.2.1,s.2.2.2.2.2.1,s.2.2.2.2.2.2.1,s.2.2.2.2.2.2.2.1,s.2.2.2.2.2.2.2.2.1,())
def wU (s:ur):Option (Bool×Bool×Bool×af×af×Int×af×Bool×Int×Unit):=
 let t0:=decide ((s.1.2.1:af)=s.2.2.2.2.2.2.1)
 some (t0,s.2.1,s.2.2.1,s.2.2.2.1,s.2.2.2.2.1,s.2.2.2.2.2.1,s.2.2.2.2.2.2.1,s.2.2.2.2.2.2.2.1,s.2.2.2.2.2.2.2.2.1,())
def wT (s:ur):Option (Bool×Bool×Bool×af×af×Int×af×Bool×Int×Unit):=
 let t0:=(!decide ((s.1.2.1:af)=s.2.2.2.2.2.2.1))
 bif t0 then
  some (false,s.2.1,s.2.2.1,s.2.2.2.1,s.2.2.2.2.1,s.2.2.2.2.2.1,s.2.2.2.2.2.2.1,s.2.2.2.2.2.2.2.1,s.2.2.2.2.2.2.2.2.1,())
 else
  match xh (s.1.2.2.2.2.2.2.1,s.2.1,s.2.2.1,s.2.2.2.1,s.2.2.2.2.1,s.2.2.2.2.2.1,s.2.2.2.2.2.2.1,s.2.2.2.2.2.2.2.1,s.2.2.2.2.2.2.2.2.1,()) with
  |none=>none
  |some au=>
   some (true,au.1,true,au.2.2.1,s.1.2.2.1,au.2.2.2.2.2.2.2.1,au.2.2.2.2.2.1,au.2.2.2.2.2.2.1,au.2.2.2.2.2.2.2.1,())
def nX (s:RK):Option RK:=
 bif s.1 then
  bif decide (s.2.1= -1) then
   some (true,0,s.2.2.1,s.2.2.2.1,s.2.2.2.2.1,s.2.2.2.2.2.1,s.2.2.2.2.2.2.1,s.2.2.2.2.2.2.2.1,s.2.2.2.2.2.2.2.2.1,s.2.2.2.2.2.2.2.2.2.1,s.2.2.2.2.2.2.2.2.2.2.1,s.2.2.2.2.2.2.2.2.2.2.2.1,s.2.2.2.2.2.2.2.2.2.2.2.2.1,s.2.2.2.2.2.2.2.2.2.2.2.2.2.1,s.2.2.2.2.2.2.2.2.2.2.2.2.2.2.1,s.2.2.2.2.2.2.2.2.2.2.2.2.2.2.2.1,s.2.2.2.2.2.2.2.2.2.2.2.2.2.2.2.2.1,s.2.2.2.2.2.2.2.2.2.2.2.2.2.2.2.2.2.1,())
  else none
 else
  bif s.2.2.2.1 then
   bif decide (s.2.1= -1) then
    some (false,1,s.2.2.1,s.2.2.2.1,s.2.2.2.2.1,s.2.2.2.2.2.1,s.2.2.2.2.2.2.1,s.2.2.2.2.2.2.2.1,s.2.2.2.2.2.2.2.2.1,s.2.2.2.2.2.2.2.2.2.1,true,true,s.2.2.2.2.1,s.2.2.2.2.2.1,s.2.2.2.2.2.2.1,[],false,0,())
   else none
  else
   bif decide (s.2.1= -1) then
    some (false,1,s.2.2.1,s.2.2.2.1,s.2.2.2.2.1,s.2.2.2.2.2.1,s.2.2.2.2.2.2.1,s.2.2.2.2.2.2.2.1,s.2.2.2.2.2.2.2.2.1,s.2.2.2.2.2.2.2.2.2.1,true,false,[],[],0,[],false,0,())
   else none
def nc (s:Int×a6×Int×Bool×Bool×af×af×Int×af×Bool×Int×Bool×Bool×af×af×Int×af×Bool×Int×Unit):Option RK:=
 bif decide (s.2.2.1=0) then
  bif decide (s.2.2.1=0) then
   bif decide (0<=s.2.1.1)&&decide (s.2.1.1<7) then
    bif (Nat.beq (Int.toNat s.2.1.1) 6) then
     match Bm (s.2.1,s.2.2.2.1,s.2.2.2.2.1,s.2.2.2.2.2.1,s.2.2.2.2.2.2.1,s.2.2.2.2.2.2.2.1,s.2.2.2.2.2.2.2.2.1,s.2.2.2.2.2.2.2.2.2.1,s.2.2.2.2.2.2.2.2.2.2.1,()) with
     |none=>none
     |some aj=>
      nX ((!aj.1),(-1:Int),aj.2.1,aj.2.2.1,aj.2.2.2.1,aj.2.2.2.2.1,aj.2.2.2.2.2.1,aj.2.2.2.2.2.2.1,aj.2.2.2.2.2.2.2.1,aj.2.2.2.2.2.2.2.2.1,s.2.2.2.2.2.2.2.2.2.2.2.1,s.2.2.2.2.2.2.2.2.2.2.2.2.1,s.2.2.2.2.2.2.2.2.2.2.2.2.2.1,s.2.2.2.2.2.2.2.2.2.2.2.2.2.2.1,s.2.2.2.2.2.2.2.2.2.2.2.2.2.2.2.1,s.2.2.2.2.2.2.2.2.2.2.2.2.2.2.2.2.1,s.2.2.2.2.2.2.2.2.2.2.2.2.2.2.2.2.2.1,s.2.2.2.2.2.2.2.2.2.2.2.2.2.2.2.2.2.2.1,())
    else
     bif (Nat.beq (Int.toNat s.2.1.1) 5) then
      match rE (s.2.1,s.2.2.2.1,s.2.2.2.2.1,s.2.2.2.2.2.1,s.2.2.2.2.2.2.1,s.2.2.2.2.2.2.2.1,s.2.2.2.2.2.2.2.2.1,s.2.2.2.2.2.2.2.2.2.1,s.2.2.2.2.2.2.2.2.2.2.1,()) with
      |none=>none
      |some aj=>
       nX ((!aj.1),(-1:Int),aj.2.1,aj.2.2.1,aj.2.2.2.1,aj.2.2.2.2.1,aj.2.2.2.2.2.1,aj.2.2.2.2.2.2.1,aj.2.2.2.2.2.2.2.1,aj.2.2.2.2.2.2.2.2.1,s.2.2.2.2.2.2.2.2.2.2.2.1,s.2.2.2.2.2.2.2.2.2.2.2.2.1,s.2.2.2.2.2.2.2.2.2.2.2.2.2.1,s.2.2.2.2.2.2.2.2.2.2.2.2.2.2.1,s.2.2.2.2.2.2.2.2.2.2.2.2.2.2.2.1,s.2.2.2.2.2.2.2.2.2.2.2.2.2.2.2.2.1,s.2.2.2.2.2.2.2.2.2.2.2.2.2.2.2.2.2.1,s.2.2.2.2.2.2.2.2.2.2.2.2.2.2.2.2.2.2.1,())
     else
      bif (Nat.beq (Int.toNat s.2.1.1) 4) then
       match Bl (s.2.1,s.2.2.2.1,s.2.2.2.2.1,s.2.2.2.2.2.1,s.2.2.2.2.2.2.1,s.2.2.2.2.2.2.2.1,s.2.2.2.2.2.2.2.2.1,s.2.2.2.2.2.2.2.2.2.1,s.2.2.2.2.2.2.2.2.2.2.1,()) with
       |none=>none
       |some aj=>
        nX ((!aj.1),(-1:Int),aj.2.1,aj.2.2.1,aj.2.2.2.1,aj.2.2.2.2.1,aj.2.2.2.2.2.1,aj.2.2.2.2.2.2.1,aj.2.2.2.2.2.2.2.1,aj.2.2.2.2.2.2.2.2.1,s.2.2.2.2.2.2.2.2.2.2.2.1,s.2.2.2.2.2.2.2.2.2.2.2.2.1,s.2.2.2.2.2.2.2.2.2.2.2.2.2.1,s.2.2.2.2.2.2.2.2.2.2.2.2.2.2.1,s.2.2.2.2.2.2.2.2.2.2.2.2.2.2.2.1,s.2.2.2.2.2.2.2.2.2.2.2.2.2.2.2.2.1,s.2.2.2.2.2.2.2.2.2.2.2.2.2.2.2.2.2.1,s.2.2.2.2.2.2.2.2.2.2.2.2.2.2.2.2.2.2.1,())
      else
       bif (Nat.beq (Int.toNat s.2.1.1) 3) then
        match Bk (s.2.1,s.2.2.2.1,s.2.2.2.2.1,s.2.2.2.2.2.1,s.2.2.2.2.2.2.1,s.2.2.2.2.2.2.2.1,s.2.2.2.2.2.2.2.2.1,s.2.2.2.2.2.2.2.2.2.1,s.2.2.2.2.2.2.2.2.2.2.1,()) with
        |none=>none
        |some aj=>
         nX ((!aj.1),(-1:Int),aj.2.1,aj.2.2.1,aj.2.2.2.1,aj.2.2.2.2.1,aj.2.2.2.2.2.1,aj.2.2.2.2.2.2.1,aj.2.2.2.2.2.2.2.1,aj.2.2.2.2.2.2.2.2.1,s.2.2.2.2.2.2.2.2.2.2.2.1,s.2.2.2.2.2.2.2.2.2.2.2.2.1,s.2.2.2.2.2.2.2.2.2.2.2.2.2.1,s.2.2.2.2.2.2.2.2.2.2.2.2.2.2.1,s.2.2.2.2.2.2.2.2.2.2.2.2.2.2.2.1,s.2.2.2.2.2.2.2.2.2.2.2.2.2.2.2.2.1,s.2.2.2.2.2.2.2.2.2.2.2.2.2.2.2.2.2.1,s.2.2.2.2.2.2.2.2.2.2.2.2.2.2.2.2.2.2.1,())
       else
        bif (Nat.beq (Int.toNat s.2.1.1) 2) then
         match wU (s.2.1,s.2.2.2.1,s.2.2.2.2.1,s.2.2.2.2.2.1,s.2.2.2.2.2.2.1,s.2.2.2.2.2.2.2.1,s.2.2.2.2.2.2.2.2.1,s.2.2.2.2.2.2.2.2.2.1,s.2.2.2.2.2.2.2.2.2.2.1,()) with
         |none=>none
         |some aj=>
          nX ((!aj.1),(-1:Int),aj.2.1,aj.2.2.1,aj.2.2.2.1,aj.2.2.2.2.1,aj.2.2.2.2.2.1,aj.2.2.2.2.2.2.1,aj.2.2.2.2.2.2.2.1,aj.2.2.2.2.2.2.2.2.1,s.2.2.2.2.2.2.2.2.2.2.2.1,s.2.2.2.2.2.2.2.2.2.2.2.2.1,s.2.2.2.2.2.2.2.2.2.2.2.2.2.1,s.2.2.2.2.2.2.2.2.2.2.2.2.2.2.1,s.2.2.2.2.2.2.2.2.2.2.2.2.2.2.2.1,s.2.2.2.2.2.2.2.2.2.2.2.2.2.2.2.2.1,s.2.2.2.2.2.2.2.2.2.2.2.2.2.2.2.2.2.1,s.2.2.2.2.2.2.2.2.2.2.2.2.2.2.2.2.2.2.1,())
        else
         bif (Nat.beq (Int.toNat s.2.1.1) 1) then
          match wT (s.2.1,s.2.2.2.1,s.2.2.2.2.1,s.2.2.2.2.2.1,s.2.2.2.2.2.2.1,s.2.2.2.2.2.2.2.1,s.2.2.2.2.2.2.2.2.1,s.2.2.2.2.2.2.2.2.2.1,s.2.2.2.2.2.2.2.2.2.2.1,()) with
          |none=>none
          |some aj=>
           nX ((!aj.1),(-1:Int),aj.2.1,aj.2.2.1,aj.2.2.2.1,aj.2.2.2.2.1,aj.2.2.2.2.2.1,aj.2.2.2.2.2.2.1,aj.2.2.2.2.2.2.2.1,aj.2.2.2.2.2.2.2.2.1,s.2.2.2.2.2.2.2.2.2.2.2.1,s.2.2.2.2.2.2.2.2.2.2.2.2.1,s.2.2.2.2.2.2.2.2.2.2.2.2.2.1,s.2.2.2.2.2.2.2.2.2.2.2.2.2.2.1,s.2.2.2.2.2.2.2.2.2.2.2.2.2.2.2.1,s.2.2.2.2.2.2.2.2.2.2.2.2.2.2.2.2.1,s.2.2.2.2.2.2.2.2.2.2.2.2.2.2.2.2.2.1,s.2.2.2.2.2.2.2.2.2.2.2.2.2.2.2.2.2.2.1,())
         else
          bif (Nat.beq (Int.toNat s.2.1.1) 0) then
           none
          else none
   else none
  else none
 else none
def zm (s:Rm):Option (Rm⊕(Cr⊕Cr)):=
 bif decide (s.1>=0) then
  bif decide (0<=s.1)&&decide (s.1<(List.length s.2.2.1:Int)) then
   let t0:=(List.getD s.2.2.1 (Int.toNat s.1) (0,([],([],(([],([],())),([],([],(0,()))))))))
   match nc (s.1,t0,s.2.1,s.2.2.2.1,s.2.2.2.2.1,s.2.2.2.2.2.1,s.2.2.2.2.2.2.1,s.2.2.2.2.2.2.2.1,s.2.2.2.2.2.2.2.2.1,s.2.2.2.2.2.2.2.2.2.1,s.2.2.2.2.2.2.2.2.2.2.1,s.2.2.2.2.2.2.2.2.2.2.2.1,s.2.2.2.2.2.2.2.2.2.2.2.2.1,s.2.2.2.2.2.2.2.2.2.2.2.2.2.1,s.2.2.2.2.2.2.2.2.2.2.2.2.2.2.1,s.2.2.2.2.2.2.2.2.2.2.2.2.2.2.2.1,s.2.2.2.2.2.2.2.2.2.2.2.2.2.2.2.2.1,s.2.2.2.2.2.2.2.2.2.2.2.2.2.2.2.2.2.1,s.2.2.2.2.2.2.2.2.2.2.2.2.2.2.2.2.2.2.1,()) with
   |none=>none
   |some au=>
    bif !au.1 then
     some (.inr (.inl (au.2.1,s.2.2.1,au.2.2.1,au.2.2.2.1,au.2.2.2.2.1,au.2.2.2.2.2.1,au.2.2.2.2.2.2.1,au.2.2.2.2.2.2.2.1,au.2.2.2.2.2.2.2.2.1,au.2.2.2.2.2.2.2.2.2.1,au.2.2.2.2.2.2.2.2.2.2.1,au.2.2.2.2.2.2.2.2.2.2.2.1,au.2.2.2.2.2.2.2.2.2.2.2.2.1,au.2.2.2.2.2.2.2.2.2.2.2.2.2.1,au.2.2.2.2.2.2.2.2.2.2.2.2.2.2.1,au.2.2.2.2.2.2.2.2.2.2.2.2.2.2.2.1,au.2.2.2.2.2.2.2.2.2.2.2.2.2.2.2.2.1,au.2.2.2.2.2.2.2.2.2.2.2.2.2.2.2.2.2.1,())))
    else
     some (.inl ((i64.wrap (s.1-1)),au.2.1,s.2.2.1,au.2.2.1,au.2.2.2.1,au.2.2.2.2.1,au.2.2.2.2.2.1,au.2.2.2.2.2.2.1,au.2.2.2.2.2.2.2.1,au.2.2.2.2.2.2.2.2.1,au.2.2.2.2.2.2.2.2.2.1,au.2.2.2.2.2.2.2.2.2.2.1,au.2.2.2.2.2.2.2.2.2.2.2.1,au.2.2.2.2.2.2.2.2.2.2.2.2.1,au.2.2.2.2.2.2.2.2.2.2.2.2.2.1,au.2.2.2.2.2.2.2.2.2.2.2.2.2.2.1,au.2.2.2.2.2.2.2.2.2.2.2.2.2.2.2.1,au.2.2.2.2.2.2.2.2.2.2.2.2.2.2.2.2.1,au.2.2.2.2.2.2.2.2.2.2.2.2.2.2.2.2.2.1,()))
  else none
 else
  some (.inr (.inr (s.2.1,s.2.2.1,s.2.2.2.1,s.2.2.2.2.1,s.2.2.2.2.2.1,s.2.2.2.2.2.2.1,s.2.2.2.2.2.2.2.1,s.2.2.2.2.2.2.2.2.1,s.2.2.2.2.2.2.2.2.2.1,s.2.2.2.2.2.2.2.2.2.2.1,s.2.2.2.2.2.2.2.2.2.2.2.1,s.2.2.2.2.2.2.2.2.2.2.2.2.1,s.2.2.2.2.2.2.2.2.2.2.2.2.2.1,s.2.2.2.2.2.2.2.2.2.2.2.2.2.2.1,s.2.2.2.2.2.2.2.2.2.2.2.2.2.2.2.1,s.2.2.2.2.2.2.2.2.2.2.2.2.2.2.2.2.1,s.2.2.2.2.2.2.2.2.2.2.2.2.2.2.2.2.2.1,s.2.2.2.2.2.2.2.2.2.2.2.2.2.2.2.2.2.2.1,())))
def M1:=bN zm
def Nk (s:Cr):Option Cr:=
 let t0:=(i64.wrap (((List.length s.2.1):Int)-1))
 match M1 (t0,s.1,s.2.1,s.2.2.1,s.2.2.2.1,s.2.2.2.2.1,s.2.2.2.2.2.1,s.2.2.2.2.2.2.1,s.2.2.2.2.2.2.2.1,s.2.2.2.2.2.2.2.2.1,s.2.2.2.2.2.2.2.2.2.1,s.2.2.2.2.2.2.2.2.2.2.1,s.2.2.2.2.2.2.2.2.2.2.2.1,s.2.2.2.2.2.2.2.2.2.2.2.2.1,s.2.2.2.2.2.2.2.2.2.2.2.2.2.1,s.2.2.2.2.2.2.2.2.2.2.2.2.2.2.1,s.2.2.2.2.2.2.2.2.2.2.2.2.2.2.2.1,s.2.2.2.2.2.2.2.2.2.2.2.2.2.2.2.2.1,s.2.2.2.2.2.2.2.2.2.2.2.2.2.2.2.2.2.1,()) with
 |none=>none
 |some (.inl aH)=>
  some (aH.1,aH.2.1,aH.2.2.1,aH.2.2.2.1,aH.2.2.2.2.1,aH.2.2.2.2.2.1,aH.2.2.2.2.2.2.1,aH.2.2.2.2.2.2.2.1,aH.2.2.2.2.2.2.2.2.1,aH.2.2.2.2.2.2.2.2.2.1,aH.2.2.2.2.2.2.2.2.2.2.1,aH.2.2.2.2.2.2.2.2.2.2.2.1,aH.2.2.2.2.2.2.2.2.2.2.2.2.1,aH.2.2.2.2.2.2.2.2.2.2.2.2.2.1,aH.2.2.2.2.2.2.2.2.2.2.2.2.2.2.1,aH.2.2.2.2.2.2.2.2.2.2.2.2.2.2.2.1,aH.2.2.2.2.2.2.2.2.2.2.2.2.2.2.2.2.1,aH.2.2.2.2.2.2.2.2.2.2.2.2.2.2.2.2.2.1,())
 |some (.inr aH)=>
  some (aH.1,aH.2.1,aH.2.2.1,aH.2.2.2.1,aH.2.2.2.2.1,aH.2.2.2.2.2.1,aH.2.2.2.2.2.2.1,aH.2.2.2.2.2.2.2.1,aH.2.2.2.2.2.2.2.2.1,aH.2.2.2.2.2.2.2.2.2.1,aH.2.2.2.2.2.2.2.2.2.2.1,aH.2.2.2.2.2.2.2.2.2.2.2.1,aH.2.2.2.2.2.2.2.2.2.2.2.2.1,aH.2.2.2.2.2.2.2.2.2.2.2.2.2.1,aH.2.2.2.2.2.2.2.2.2.2.2.2.2.2.1,aH.2.2.2.2.2.2.2.2.2.2.2.2.2.2.2.1,aH.2.2.2.2.2.2.2.2.2.2.2.2.2.2.2.2.1,aH.2.2.2.2.2.2.2.2.2.2.2.2.2.2.2.2.2.1,())
def yf (s:af×List a6×Unit):Option (mN×Unit):=
 match zE (s.2.1,()) with
 |none=>none
 |some aj=>
  match Nk (0,aj.1,false,false,s.1,[],0,s.1,false,0,false,false,[],[],0,[],false,0,()) with
  |none=>none
  |some au=>
   bif decide (au.1=0) then
    some ((au.2.2.1,(au.2.2.2.1,((au.2.2.2.2.1,(au.2.2.2.2.2.1,(au.2.2.2.2.2.2.1,()))),(au.2.2.2.2.2.2.2.1,(au.2.2.2.2.2.2.2.2.1,(au.2.2.2.2.2.2.2.2.2.1,())))))),())
   else
    bif decide (au.1=1) then
     some ((au.2.2.2.2.2.2.2.2.2.2.1,(au.2.2.2.2.2.2.2.2.2.2.2.1,((au.2.2.2.2.2.2.2.2.2.2.2.2.1,(au.2.2.2.2.2.2.2.2.2.2.2.2.2.1,(au.2.2.2.2.2.2.2.2.2.2.2.2.2.2.1,()))),(au.2.2.2.2.2.2.2.2.2.2.2.2.2.2.2.1,(au.2.2.2.2.2.2.2.2.2.2.2.2.2.2.2.2.1,(au.2.2.2.2.2.2.2.2.2.2.2.2.2.2.2.2.2.1,())))))),())
    else none
def tn (s:af×Unit):Option (Bool×Unit):=
 some ((!decide ((s.1:af)=s.1)),())
def GQ (s:ah):Option (Bool×Unit):=
 match tn (s.1,()) with
 |none=>none
 |some aj=>
  bif aj.1 then
   match tn (s.2.1,()) with
   |none=>none
   |some au=>
    bif (!(!au.1)) then
     some ((Op.bytesLess s.1 s.2.1),())
    else
     some (true,())
  else
   some ((Op.bytesLess s.1 s.2.1),())
def F1 (s:af×Unit):Option (Bool×Unit):=
 some ((!decide ((s.1:af)=s.1)),())
def EJ (s:RQ):Option (RQ⊕(((List af)×af×Int×Int×Unit)⊕Unit)):=
 let t0:=decide (s.2.2.2.1<s.2.2.2.2.1)
 bif t0 then
  let t1:=i64.wrap (s.2.2.2.1+s.2.2.2.2.1)
  let t2:Int:=(Int.fdiv (IntKind.u64.wrap t1) (2^(min (Int.toNat 1) IntKind.u64.bits)))
  bif (decide (0<=(i64.wrap t2))&&decide (((i64.wrap t2):Int)<(List.length s.1:Int))) then
   let t3:=(List.getD s.1 (Int.toNat (i64.wrap t2)) [])
   match GQ (t3,s.2.1,()) with
   |none=>none
   |some cN=>
    bif cN.1 then
     let t5:=i64.wrap ((i64.wrap t2)+1)
     some (.inl (s.1,s.2.1,s.2.2.1,t5,s.2.2.2.2.1,()))
    else
     some (.inl (s.1,s.2.1,s.2.2.1,s.2.2.2.1,(i64.wrap t2),()))
  else none
 else
  some (.inr (.inl (s.1,s.2.1,s.2.2.1,s.2.2.2.1,())))
def Nn:=bN EJ
def E9 (s:(List af)×af×Unit):Option CJ:=
 match Nn (s.1,s.2.1,((List.length s.1):Int),0,((List.length s.1):Int),()) with
 |none=>none
 |some (.inl z0)=>
  bif decide (z0.2.2.2.1<z0.2.2.1) then
   bif decide (0<=z0.2.2.2.1)&&decide (z0.2.2.2.1<(List.length z0.1:Int)) then
    let t1:=(List.getD z0.1 (Int.toNat z0.2.2.2.1) [])
    bif (!(decide ((t1:af)=z0.2.1))) then
     bif decide (0<=z0.2.2.2.1)&&decide (z0.2.2.2.1<(List.length z0.1:Int)) then
      let t2:=(List.getD z0.1 (Int.toNat z0.2.2.2.1) [])
      match F1 (t2,()) with
      |none=>none
      |some bF=>
       bif bF.1 then
        match F1 (z0.2.1,()) with
        |none=>none
        |some cN=>
         some (z0.2.2.2.1,cN.1,())
       else
        some (z0.2.2.2.1,false,())
     else none
    else
     some (z0.2.2.2.1,true,())
   else none
  else
   some (z0.2.2.2.1,false,())
 |some (.inr z0)=>
  none
def Dx (s:af×(List af)×Unit):Option (Int×Unit):=
 match E9 (s.2.1,s.1,()) with
 |none=>none
 |some aj=>
  bif aj.2.1 then
   some ((i64.wrap (aj.1+1)),())
  else
   some (aj.1,())
def CV (s:mN×ak×Bool×Unit):Option (ak×Bool×Unit):=
 bif s.1.1 then
  some (s.1.2.2.1,s.1.2.1,())
 else
  bif !s.2.2.1 then
   some (([],([],(0,()))),false,())
  else
   bif s.1.2.2.2.2.1 then
    some ((s.1.2.2.1.1,(s.2.1.2.1,(s.1.2.2.2.2.2.1,()))),true,())
   else
    some ((s.1.2.2.1.1,(s.2.1.2.1,(s.2.1.2.2.1,()))),true,())
def kC (s:Rr):Option (Rr⊕(H4⊕Unit)):=
 match kh (s.2.2.2.1.1,s.2.1,()) with
 |none=>none
 |some aj=>
  bif (!decide (aj.2.1=0)) then
   some (.inr (.inl (aj.2.1,s.2.2.1,([],([],(0,()))),false,0,())))
  else
   let t1:=i64.wrap (s.2.2.2.2.2.2.2.2.1+1)
   match rQ (aj.1,()) with
   |none=>none
   |some aL=>
    bif aL.1 then
     match Dc (aj.1.1,s.1,()) with
     |none=>none
     |some bF=>
      some (.inr (.inl (0,s.2.2.1,bF.1,bF.2.1,t1,())))
    else
     match yf (s.1,aj.1.2.2.2.2.1,()) with
     |none=>none
     |some bF=>
      bif bF.1.1 then
       some (.inr (.inl (0,(bF.1::s.2.2.1),([],([],(0,()))),false,t1,())))
      else
       match Dx (bF.1.2.2.2.1,aj.1.2.1,()) with
       |none=>none
       |some cN=>
        bif decide (0<=cN.1)&&decide (cN.1<(List.length aj.1.2.2.1:Int)) then
         let t5:=(List.getD aj.1.2.2.1 (Int.toNat cN.1) 0)
         some (.inl (bF.1.2.2.2.1,t5,(bF.1::s.2.2.1),s.2.2.2.1,s.2.2.2.2.1,s.2.2.2.2.2.1,s.2.2.2.2.2.2.1,s.2.2.2.2.2.2.2.1,t1,()))
        else none
def CW:=bN kC
def tL (s:H4):Option (H4⊕((Int×ak×Bool×Int×Unit)⊕Unit)):=
 bif (List.isEmpty s.2.1) then
  some (.inr (.inl (s.1,s.2.2.1,s.2.2.2.1,s.2.2.2.2.1,())))
 else
  match (List.head? s.2.1) with
  |none=>none
  |some BP=>
   let t1:=decide (s.2.2.2.2.1>0)
   bif t1 then
    match CV (BP,s.2.2.1,s.2.2.2.1,()) with
    |none=>none
    |some aL=>
     some (.inl (s.1,(List.tail s.2.1),aL.1,aL.2.1,s.2.2.2.2.1,()))
   else
    some (.inl (s.1,(List.tail s.2.1),s.2.2.1,s.2.2.2.1,s.2.2.2.2.1,()))
def BZ:=bN tL
def oA (s:CI):Option nD:=
 match CW (s.2.1,s.1.2.1,[],s.1,[],[],0,false,0,()) with
 |none=>none
 |some (.inl z0)=>
  match BZ (z0.1,z0.2.1,z0.2.2.1,z0.2.2.2.1,z0.2.2.2.2.1,()) with
  |none=>none
  |some (.inl aH)=>
   some (aH.2.1,aH.2.2.1,aH.2.2.2.1,aH.1,())
  |some (.inr aH)=>
   none
 |some (.inr z0)=>
  none
def Hx (s:fc):Option (Bool×Unit):=
 bif decide (s.2.1<=s.1) then
  some ((decide (s.1<=s.2.2.1)),())
 else
  some (false,())
def KY (s:fc×Unit):Option (Bool×Unit):=
 match Hx (s.1.1,2,64,()) with
 |none=>none
 |some aj=>
  bif aj.1 then
   match Hx (s.1.2.1,2,16,()) with
   |none=>none
   |some au=>
    bif au.1 then
     match Hx (s.1.2.2.1,1,64,()) with
     |none=>none
     |some aL=>
      some (aL.1,())
    else
     some (false,())
  else
   some (false,())
def YZ (s:cY×Unit):Option (Bool×Unit):=
 some ((!s.1.1),())
def adD (s:List cY×Int×Int×Unit):Option ((List cY×Int×Int×Unit)⊕((Int×Unit)⊕Unit)):=
 bif decide (s.2.2.1<s.2.1) then
  bif decide (0<=s.2.2.1)&&decide (s.2.2.1<(List.length s.1:Int)) then
   let t0:=(List.getD s.1 (Int.toNat s.2.2.1) (false,(false,(0,(([],([],([],([],([],()))))),())))))
   match YZ (t0,()) with
   |none=>none
   |some au=>
    bif au.1 then
     some (.inr (.inl (s.2.2.1,())))
    else
     some (.inl (s.1,s.2.1,(i64.wrap (s.2.2.1+1)),()))
  else none
 else
  some (.inr (.inr (())))
def adF:=bN adD
def ael (s:bO):Option (Int×Unit):=
 match adF (s.1,((List.length s.1):Int),0,()) with
 |none=>none
 |some (.inl z0)=>
  some (z0.1,())
 |some (.inr z0)=>
  some ((-1:Int),())
def KM (s:bO×Unit):Option bO:=
 bif (decide (0<=((List.length s.1.1):Int))&&decide ((((List.length s.1.1):Int):Int)<=((List.length s.1.1):Int))&&decide (((List.length s.1.1):Int)*136<=(bm:Int))) then
  let t0:=(List.take (List.length (List.replicate (Int.toNat ((List.length s.1.1):Int)) (false,(false,((0:Int),((([]:List ak),(([]:List af),(([]:List Int),(([]:List dX),(([]:List a6),()))))),())))))) s.1.1)
  let t1:=(List.take 0 (List.replicate (Int.toNat ((List.length s.1.1):Int)) (false,(false,((0:Int),((([]:List ak),(([]:List af),(([]:List Int),(([]:List dX),(([]:List a6),()))))),())))))++t0++List.drop (0+List.length t0) (List.replicate (Int.toNat ((List.length s.1.1):Int)) (false,(false,((0:Int),((([]:List ak),(([]:List af),(([]:List Int),(([]:List dX),(([]:List a6),()))))),()))))))
  some (t1,())
 else none
def XW (s:RR):Option (RR⊕((Int×Int×bO×Unit)⊕(bO×bs×List cY×Unit))):=
 bif decide (s.2.2.1<s.2.1) then
  bif decide (0<=s.2.2.1)&&decide (s.2.2.1<(List.length s.1:Int)) then
   let t0:=(List.getD s.1 (Int.toNat s.2.2.1) 0)
   match xw (s.2.2.2.1,t0,()) with
   |none=>none
   |some au=>
    bif !au.1 then
     some (.inr (.inl (0,110,s.2.2.2.1,())))
    else
     some (.inl (s.1,s.2.1,(i64.wrap (s.2.2.1+1)),s.2.2.2.1,s.2.2.2.2.1,s.2.2.2.2.2.1,()))
  else none
 else
  some (.inr (.inr (s.2.2.2.1,s.2.2.2.2.1,s.2.2.2.2.2.1,())))
def X0:=bN XW
def XX (s:RS):Option (RS⊕((Int×List cY×List cY×Unit)⊕Unit)):=
 bif decide (s.2.2.2.1<s.2.2.1) then
  bif decide (0<=s.2.2.2.1)&&decide (s.2.2.2.1<(List.length s.2.1:Int)) then
   let t0:=(List.getD s.2.1 (Int.toNat s.2.2.2.1) 0)
   bif decide (0<=t0)&&decide (t0<(List.length s.2.2.2.2.2.1:Int)) then
    let t1:=(List.getD s.2.2.2.2.2.1 (Int.toNat t0) (false,(false,(0,(([],([],([],([],([],()))))),())))))
    let t2:=i64.wrap (t1.2.2.1+1)
    bif decide (0<=t0)&&decide (t0<(List.length s.2.2.2.2.2.1:Int)) then
     let t3:=(List.set s.2.2.2.2.2.1 (Int.toNat t0) ((List.getD s.2.2.2.2.2.1 (Int.toNat t0) (false,(false,(0,(([],([],([],([],([],()))))),()))))).1,((List.getD s.2.2.2.2.2.1 (Int.toNat t0) (false,(false,(0,(([],([],([],([],([],()))))),()))))).2.1,(t2,(List.getD s.2.2.2.2.2.1 (Int.toNat t0) (false,(false,(0,(([],([],([],([],([],()))))),()))))).2.2.2))))
     let t4:=i64.wrap (s.2.2.2.1+1)
     some (.inl (s.1,s.2.1,s.2.2.1,t4,s.2.2.2.2.1,t3,()))
    else none
   else none
  else none
 else
  some (.inr (.inl (s.1,s.2.2.2.2.1,s.2.2.2.2.2.1,())))
def X1:=bN XX
def XZ (s:Int×bs×List cY×List cY×Unit):Option og:=
 bif decide (0<=s.1)&&decide (s.1<(List.length s.2.2.2.1:Int)) then
  let t0:=(List.set s.2.2.2.1 (Int.toNat s.1) (true,(false,(1,(s.2.1,())))))
  match X1 (s.1,s.2.1.2.2.1,((List.length s.2.1.2.2.1):Int),0,s.2.2.1,t0,()) with
  |none=>none
  |some (.inl aH)=>
   some ((aH.2.2.1,()),aH.1,0,())
  |some (.inr aH)=>
   none
 else none
def XY (s:Int×bO×bs×List cY×Unit):Option og:=
 bif decide (s.1>=4096) then
  some (s.2.1,0,111,())
 else
  match KM (s.2.1,()) with
  |none=>none
  |some aj=>
   let t1:=(decide (s.1=((List.length aj.1):Int)))
   bif t1 then
    bif (decide ((List.length aj.1+List.length ([(false,(false,(0,(([],([],([],([],([],()))))),()))))]:List cY))*136<=bm)) then
     let t2:List cY:=(aj.1++([(false,(false,(0,(([],([],([],([],([],()))))),()))))]:List cY))
     XZ (s.1,s.2.2.1,s.2.2.2.1,t2,())
    else none
   else
    XZ (s.1,s.2.2.1,s.2.2.2.1,aj.1,())
def DV (s:bO×bs×Unit):Option og:=
 match X0 (s.2.1.2.2.1,((List.length s.2.1.2.2.1):Int),0,s.1,s.2.1,[],()) with
 |none=>none
 |some (.inl z0)=>
  some (z0.2.2.1,z0.1,z0.2.1,())
 |some (.inr z0)=>
  match ael (z0.1.1,()) with
  |none=>none
  |some au=>
   bif decide (au.1<0) then
    XY (((List.length z0.1.1):Int),z0.1,z0.2.1,z0.2.2.1,())
   else
    XY (au.1,z0.1,z0.2.1,z0.2.2.1,())
def LI (s:fc×Unit):Option (ct×Int×Unit):=
 match KY (s.1,()) with
 |none=>none
 |some aj=>
  bif !aj.1 then
   some ((([],()),(0,((0,(0,(0,()))),()))),120,())
  else
   match DV (([],()),([],([],([],([],([],()))))),()) with
   |none=>none
   |some au=>
    some ((au.1,(au.2.1,(s.1,()))),au.2.2.1,())
def pU (s:Int×Unit):Option (af×Unit):=
 let t0:=(decide (((Int.tmod s.1 24):Int)<20))
 bif t0 then
  let t1:=(IntKind.u8.wrap (Int.tdiv (Int.tmod s.1 24) 5))
  bif (decide (0<=t1)&&decide (t1<(List.length ([([97,47]:af),([98,47]:af),([97,47,98,47]:af),([99,47]:af)]:List af):Int))) then
   let t2:=(List.getD ([([97,47]:af),([98,47]:af),([97,47,98,47]:af),([99,47]:af)]:List af) (Int.toNat t1) [])
   let t3:Int:=(Int.tmod (Int.tmod s.1 24) 5)
   bif (decide (0<=t3)&&decide (t3<(List.length ([([1]:af),([2,0,0]:af),([2,0,1]:af),([2,0,2]:af),([3,120]:af)]:List af):Int))) then
    let t4:=(List.getD ([([1]:af),([2,0,0]:af),([2,0,1]:af),([2,0,2]:af),([3,120]:af)]:List af) (Int.toNat t3) [])
    bif decide (List.length t2+List.length t4<=bm) then
     some ((t2++t4),())
    else none
   else none
  else none
 else
  let t1:=(IntKind.u8.wrap ((Int.tmod s.1 24)-20))
  bif (decide (0<=t1)&&decide (t1<(List.length ([([1]:af),([5,48,48,48,48,48,48,48,49,47,1]:af),([6,97,47,1]:af),([97,47,98,47,99,47,1]:af)]:List af):Int))) then
   let t2:=(List.getD ([([1]:af),([5,48,48,48,48,48,48,48,49,47,1]:af),([6,97,47,1]:af),([97,47,98,47,99,47,1]:af)]:List af) (Int.toNat t1) [])
   some (t2,())
  else none
def C5 (s:fc×Unit):Option (ak×Unit):=
 match pU (s.1.1,()) with
 |none=>none
 |some aj=>
  bif (decide (0<=(Int.tmod s.1.2.1 4))&&decide (((Int.tmod s.1.2.1 4):Int)<(List.length ([[],([118]:af),([119,120]:af),([120,121,122]:af)]:List af):Int))) then
   let t1:=(List.getD ([[],([118]:af),([119,120]:af),([120,121,122]:af)]:List af) (Int.toNat (Int.tmod s.1.2.1 4)) [])
   let t2:=i64.wrap (Int.tmod s.1.2.2.1 4)
   some ((aj.1,(t1,(t2,()))),())
  else none
def Qx (s:nN):Option (nN⊕((Bool×ak×List ak×Unit)⊕Unit)):=
 bif decide (0<=s.2.2.1)&&decide (s.2.2.1<(List.length s.1:Int)) then
  let t0:=(List.getD s.1 (Int.toNat s.2.2.1) ([],([],(0,()))))
  let t1:=(!decide ((t0.1:af)=s.2.2.2.1.1))
  bif t1 then
   bif decide (0<=s.2.2.1)&&decide (s.2.2.1<(List.length s.1:Int)) then
    let t2:=(List.getD s.1 (Int.toNat s.2.2.1) ([],([],(0,()))))
    bif (decide ((List.length s.2.2.2.2.1+List.length ([t2]:List ak))*40<=bm)) then
     let t3:List ak:=(s.2.2.2.2.1++([t2]:List ak))
     some (.inl (s.1,s.2.1,(i64.wrap (s.2.2.1+1)),s.2.2.2.1,t3,()))
    else none
   else none
  else
   some (.inl (s.1,s.2.1,(i64.wrap (s.2.2.1+1)),s.2.2.2.1,s.2.2.2.2.1,()))
 else none
def Qy (s:RF):Option (nN⊕((Bool×ak×List ak×Unit)⊕Unit)):=
 bif s.2.2.2.1 then
  bif (decide ((List.length s.2.2.2.2.2.1+List.length ([s.2.2.2.2.1]:List ak))*40<=bm)) then
   let t0:List ak:=(s.2.2.2.2.2.1++([s.2.2.2.2.1]:List ak))
   Qx (s.1,true,s.2.2.1,s.2.2.2.2.1,t0,())
  else none
 else
  Qx (s.1,s.2.1,s.2.2.1,s.2.2.2.2.1,s.2.2.2.2.2.1,())
def Bz (s:nN):Option (nN⊕((Bool×ak×List ak×Unit)⊕Unit)):=
 let t0:=(decide (s.2.2.1<((List.length s.1):Int)))
 bif t0 then
  bif !s.2.1 then
   bif decide (0<=s.2.2.1)&&decide (s.2.2.1<(List.length s.1:Int)) then
    let t1:=(List.getD s.1 (Int.toNat s.2.2.1) ([],([],(0,()))))
    Qy (s.1,s.2.1,s.2.2.1,(!(Op.bytesLess t1.1 s.2.2.2.1.1)),s.2.2.2.1,s.2.2.2.2.1,())
   else none
  else
   Qy (s.1,s.2.1,s.2.2.1,false,s.2.2.2.1,s.2.2.2.2.1,())
 else
  some (.inr (.inl (s.2.1,s.2.2.2.1,s.2.2.2.2.1,())))
def JQ:=bN Bz
def Du (s:List ak×ak×Unit):Option (List ak×Unit):=
 match JQ (s.1,false,0,s.2.1,[],()) with
 |none=>none
 |some (.inl z0)=>
  bif !z0.1 then
   bif (decide ((List.length z0.2.2.1+List.length ([z0.2.1]:List ak))*40<=bm)) then
    let t1:List ak:=(z0.2.2.1++([z0.2.1]:List ak))
    some (t1,())
   else none
  else
   some (z0.2.2.1,())
 |some (.inr z0)=>
  none
def AR (s:List fc×Int×Bool×List ak×Unit):Option (HX⊕((List ak×Unit)⊕Unit)):=
 bif s.2.2.1 then
  bif decide (0<=s.2.1)&&decide (s.2.1<(List.length s.1:Int)) then
   let t0:=(List.getD s.1 (Int.toNat s.2.1) (0,(0,(0,()))))
   match C5 (t0,()) with
   |none=>none
   |some au=>
    match Du (s.2.2.2.1,au.1,()) with
    |none=>none
    |some aL=>
     some (.inl (s.1,(i64.wrap (s.2.1+1)),aL.1,()))
  else none
 else
  some (.inr (.inl (s.2.2.2.1,())))
def wQ (s:HX):Option (HX⊕((List ak×Unit)⊕Unit)):=
 let t0:=(decide (s.2.1<((List.length s.1):Int)))
 bif t0 then
  AR (s.1,s.2.1,(decide (s.2.1<40)),s.2.2.1,())
 else
  AR (s.1,s.2.1,false,s.2.2.1,())
def Hf:=bN wQ
def x7 (s:List fc×Unit):Option (List ak×Unit):=
 match Hf (s.1,0,[],()) with
 |none=>none
 |some (.inl z0)=>
  some (z0.1,())
 |some (.inr z0)=>
  none
def xz (s:dS):Option (bs×Int×Unit):=
 match xm (s.1,s.2.1,()) with
 |none=>none
 |some aj=>
  bif !aj.1 then
   some (([],([],([],([],([],()))))),110,())
  else
   bif decide (0<=s.2.1)&&decide (s.2.1<(List.length s.1.1:Int)) then
    let t1:=(List.getD s.1.1 (Int.toNat s.2.1) (false,(false,(0,(([],([],([],([],([],()))))),())))))
    bif t1.2.1 then
     some (([],([],([],([],([],()))))),112,())
    else
     bif decide (0<=s.2.1)&&decide (s.2.1<(List.length s.1.1:Int)) then
      let t2:=(List.getD s.1.1 (Int.toNat s.2.1) (false,(false,(0,(([],([],([],([],([],()))))),())))))
      some (t2.2.2.2.1,0,())
     else none
   else none
def oo (s:Int×Unit):Option (af×Unit):=
 bif (decide (0<=(Int.tmod s.1 5))&&decide (((Int.tmod s.1 5):Int)<(List.length ([([97,47]:af),([98,47]:af),([97,47,98,47]:af),([99,47]:af),([100,47]:af)]:List af):Int))) then
  let t0:=(List.getD ([([97,47]:af),([98,47]:af),([97,47,98,47]:af),([99,47]:af),([100,47]:af)]:List af) (Int.toNat (Int.tmod s.1 5)) [])
  some (t0,())
 else none
def xy (s:Int×Unit):Option (af×Unit):=
 match oo ((Int.tmod s.1 4),()) with
 |none=>none
 |some aj=>
  let t1:=(IntKind.u8.wrap (Int.tdiv s.1 4))
  bif (decide (0<=(Int.tmod t1 5))&&decide (((Int.tmod t1 5):Int)<(List.length ([([1]:af),([2,0,0]:af),([2,0,1]:af),([2,0,2]:af),([3,120]:af)]:List af):Int))) then
   let t2:=(List.getD ([([1]:af),([2,0,0]:af),([2,0,1]:af),([2,0,2]:af),([3,120]:af)]:List af) (Int.toNat (Int.tmod t1 5)) [])
   bif decide (List.length aj.1+List.length t2<=bm) then
    some ((aj.1++t2),())
   else none
  else none
def TR (s:H2):Option (H2⊕(H2⊕Unit)):=
 bif decide (s.2.1>0) then
  bif (decide (0<=(i64.wrap (s.2.1-1)))&&decide (((i64.wrap (s.2.1-1)):Int)<(List.length s.1:Int))) then
   let t0:Int:=((List.getD s.1 (Int.toNat (i64.wrap (s.2.1-1))) 0).toNat:Int)
   bif decide (t0=255) then
    some (.inl (s.1,(i64.wrap (s.2.1-1)),s.2.2.1,s.2.2.2.1,()))
   else
    some (.inr (.inl (s.1,s.2.1,s.2.2.1,s.2.2.2.1,())))
  else none
 else
  some (.inr (.inl (s.1,s.2.1,s.2.2.1,s.2.2.2.1,())))
def TT:=bN TR
def mb (s:af×Unit):Option (ah×Unit):=
 match TT (s.1,((List.length s.1):Int),[],[],()) with
 |none=>none
 |some (.inl z0)=>
  bif decide (z0.2.1=0) then
   some ((z0.1,([],())),())
  else
   bif (decide ((0:Int)<=(i64.wrap (z0.2.1-1)))&&decide (((i64.wrap (z0.2.1-1)):Int)<=(List.length z0.1:Int))) then
    let t1:=(List.drop 0 (List.take (Int.toNat (i64.wrap (z0.2.1-1))) z0.1))
    bif (decide (0<=(i64.wrap (z0.2.1-1)))&&decide (((i64.wrap (z0.2.1-1)):Int)<(List.length z0.1:Int))) then
     let t2:Int:=((List.getD z0.1 (Int.toNat (i64.wrap (z0.2.1-1))) 0).toNat:Int)
     let t3:af:=(rV ([(IntKind.u8.wrap (t2+1))]:List Int))
     bif decide (List.length t1+List.length t3<=bm) then
      some ((z0.1,((t1++t3),())),())
     else none
    else none
   else none
 |some (.inr z0)=>
  none
def rk (s:ah):Option (Bool×Unit):=
 let t0:=(decide ((((List.length s.1):Int):Int)>=((List.length s.2.1):Int)))
 bif t0 then
  bif (decide ((0:Int)<=((List.length s.2.1):Int))&&decide ((((List.length s.2.1):Int):Int)<=(List.length s.1:Int))) then
   let t1:=(List.drop 0 (List.take (Int.toNat ((List.length s.2.1):Int)) s.1))
   some ((decide ((t1:af)=s.2.1)),())
  else none
 else
  some (false,())
def rg (s:Int×Unit):Option (af×Unit):=
 bif (decide (0<=(Int.tmod s.1 5))&&decide (((Int.tmod s.1 5):Int)<(List.length ([[],([120]:af),([121,121]:af),([49,50,51,52,53,54,55,56,57,48]:af),([0,255]:af)]:List af):Int))) then
  let t0:=(List.getD ([[],([120]:af),([121,121]:af),([49,50,51,52,53,54,55,56,57,48]:af),([0,255]:af)]:List af) (Int.toNat (Int.tmod s.1 5)) [])
  some (t0,())
 else none
def mR (s:af×Unit):Option (ah×Unit):=
 bif decide (List.length s.1+List.length ([0]:af)<=bm) then
  some ((s.1,((s.1++([0]:af)),())),())
 else none
def qN (s:af×af×af×Bool×m4×Int×af×af×af×af×af×af×Int×ah×Unit):Option (Rl⊕Unit):=
 bif s.2.2.2.1 then
  let t0:=decide ((s.2.1:af)=([100,47]:af))
  bif t0 then
   some (.inl (s.1,s.2.1,([99,47]:af),s.2.2.2.2.1,s.2.2.2.2.2.1,s.2.2.2.2.2.2.1,s.2.2.2.2.2.2.2.1,s.2.2.2.2.2.2.2.2.1,s.2.2.2.2.2.2.2.2.2.1,s.2.2.2.2.2.2.2.2.2.2.1,s.2.2.2.2.2.2.2.2.2.2.2.1,s.2.2.2.2.2.2.2.2.2.2.2.2.1,s.2.2.2.2.2.2.2.2.2.2.2.2.2.1,()))
  else
   some (.inl (s.1,s.2.1,([100,47]:af),s.2.2.2.2.1,s.2.2.2.2.2.1,s.2.2.2.2.2.2.1,s.2.2.2.2.2.2.2.1,s.2.2.2.2.2.2.2.2.1,s.2.2.2.2.2.2.2.2.2.1,s.2.2.2.2.2.2.2.2.2.2.1,s.2.2.2.2.2.2.2.2.2.2.2.1,s.2.2.2.2.2.2.2.2.2.2.2.2.1,s.2.2.2.2.2.2.2.2.2.2.2.2.2.1,()))
 else
  some (.inl (s.1,s.2.1,s.2.2.1,s.2.2.2.2.1,s.2.2.2.2.2.1,s.2.2.2.2.2.2.1,s.2.2.2.2.2.2.2.1,s.2.2.2.2.2.2.2.2.1,s.2.2.2.2.2.2.2.2.2.1,s.2.2.2.2.2.2.2.2.2.2.1,s.2.2.2.2.2.2.2.2.2.2.2.1,s.2.2.2.2.2.2.2.2.2.2.2.2.1,s.2.2.2.2.2.2.2.2.2.2.2.2.2.1,()))
def pA (s:Rl):Option (a6⊕Unit):=
 let t0:Int:=(Int.tmod s.2.2.2.1.2.2.2.2.2.1 8)
 let t1:=(decide (((Int.tmod s.2.2.2.1.1 6):Int)=0))
 bif t1 then
  match rg (s.2.2.2.1.2.2.1,()) with
  |none=>none
  |some aL=>
   some (.inl (1,s.1,aL.1,([],([],())),[],[],(i64.wrap t0),()))
 else
  let t2:=(decide (((Int.tmod s.2.2.2.1.1 6):Int)=1))
  bif t2 then
   some (.inl (2,s.1,[],([],([],())),[],[],0,()))
  else
   let t3:=(decide (((Int.tmod s.2.2.2.1.1 6):Int)=2))
   bif t3 then
    some (.inl (3,[],[],s.2.2.2.2.2.2.2.2.2.2.2.2.1,[],[],0,()))
   else
    let t4:=(decide (((Int.tmod s.2.2.2.1.1 6):Int)=3))
    bif t4 then
     some (.inl (4,[],[],([],([],())),s.2.1,s.2.2.1,0,()))
    else
     let t5:=(decide (((Int.tmod s.2.2.2.1.1 6):Int)=4))
     bif t5 then
      some (.inl (5,[],[],([],([],())),s.2.1,s.2.2.1,0,()))
     else
      some (.inl (6,[],[],s.2.2.2.2.2.2.2.2.2.2.2.2.1,[],[],(i64.wrap t0),()))
def lR (s:af×m4×Int×af×af×af×af×af×af×Int×ah×Unit):Option (a6⊕Unit):=
 match oo (s.2.1.2.1,()) with
 |none=>none
 |some aj=>
  match oo (s.2.1.2.2.2.1,()) with
  |none=>none
  |some au=>
   match rk (aj.1,au.1,()) with
   |none=>none
   |some aL=>
    bif !aL.1 then
     match rk (au.1,aj.1,()) with
     |none=>none
     |some bF=>
      match qN (s.1,aj.1,au.1,bF.1,s.2.1,s.2.2.1,s.2.2.2.1,s.2.2.2.2.1,s.2.2.2.2.2.1,s.2.2.2.2.2.2.1,s.2.2.2.2.2.2.2.1,s.2.2.2.2.2.2.2.2.1,s.2.2.2.2.2.2.2.2.2.1,s.2.2.2.2.2.2.2.2.2.2.1,()) with
      |none=>none
      |some (.inl z4)=>
       match pA (z4.1,z4.2.1,z4.2.2.1,z4.2.2.2.1,z4.2.2.2.2.1,z4.2.2.2.2.2.1,z4.2.2.2.2.2.2.1,z4.2.2.2.2.2.2.2.1,z4.2.2.2.2.2.2.2.2.1,z4.2.2.2.2.2.2.2.2.2.1,z4.2.2.2.2.2.2.2.2.2.2.1,z4.2.2.2.2.2.2.2.2.2.2.2.1,z4.2.2.2.2.2.2.2.2.2.2.2.2.1,()) with
       |none=>none
       |some (.inl z5)=>
        some (.inl (z5.1,z5.2.1,z5.2.2.1,z5.2.2.2.1,z5.2.2.2.2.1,z5.2.2.2.2.2.1,z5.2.2.2.2.2.2.1,()))
       |some (.inr z5)=>
        none
      |some (.inr z4)=>
       none
    else
     match qN (s.1,aj.1,au.1,true,s.2.1,s.2.2.1,s.2.2.2.1,s.2.2.2.2.1,s.2.2.2.2.2.1,s.2.2.2.2.2.2.1,s.2.2.2.2.2.2.2.1,s.2.2.2.2.2.2.2.2.1,s.2.2.2.2.2.2.2.2.2.1,s.2.2.2.2.2.2.2.2.2.2.1,()) with
     |none=>none
     |some (.inl z3)=>
      match pA (z3.1,z3.2.1,z3.2.2.1,z3.2.2.2.1,z3.2.2.2.2.1,z3.2.2.2.2.2.1,z3.2.2.2.2.2.2.1,z3.2.2.2.2.2.2.2.1,z3.2.2.2.2.2.2.2.2.1,z3.2.2.2.2.2.2.2.2.2.1,z3.2.2.2.2.2.2.2.2.2.2.1,z3.2.2.2.2.2.2.2.2.2.2.2.1,z3.2.2.2.2.2.2.2.2.2.2.2.2.1,()) with
      |none=>none
      |some (.inl z4)=>
       some (.inl (z4.1,z4.2.1,z4.2.2.1,z4.2.2.2.1,z4.2.2.2.2.1,z4.2.2.2.2.2.1,z4.2.2.2.2.2.2.1,()))
      |some (.inr z4)=>
       none
     |some (.inr z3)=>
      none
def rF (s:m4×Unit):Option (a6×Unit):=
 match xy (s.1.2.1,()) with
 |none=>none
 |some aj=>
  match xy (s.1.2.2.2.1,()) with
  |none=>none
  |some au=>
   let t2:af:=(bif (Op.bytesLess aj.1 au.1||decide ((aj.1:af)=au.1)) then aj.1 else au.1)
   let t3:af:=(bif !(Op.bytesLess aj.1 au.1) then aj.1 else au.1)
   let t4:=(decide (((Int.tmod s.1.2.2.2.2.1 4):Int)=0))
   bif t4 then
    match oo (s.1.2.1,()) with
    |none=>none
    |some fv=>
     match mb (fv.1,()) with
     |none=>none
     |some ht=>
      match lR (aj.1,s.1,0,[],[],[],[],[],[],0,ht.1,()) with
      |none=>none
      |some (.inl e3)=>
       some ((e3.1,(e3.2.1,(e3.2.2.1,(e3.2.2.2.1,(e3.2.2.2.2.1,(e3.2.2.2.2.2.1,(e3.2.2.2.2.2.2.1,()))))))),())
      |some (.inr e3)=>
       none
   else
    let t5:=(decide (((Int.tmod s.1.2.2.2.2.1 16):Int)=1))
    bif t5 then
     match lR (aj.1,s.1,0,[],[],[],[],[],[],0,(aj.1,([],())),()) with
     |none=>none
     |some (.inl jx)=>
      some ((jx.1,(jx.2.1,(jx.2.2.1,(jx.2.2.2.1,(jx.2.2.2.2.1,(jx.2.2.2.2.2.1,(jx.2.2.2.2.2.2.1,()))))))),())
     |some (.inr jx)=>
      none
    else
     let t6:=(decide (((Int.tmod s.1.2.2.2.2.1 16):Int)=5))
     bif t6 then
      match lR (aj.1,s.1,0,[],[],[],[],[],[],0,([],([],())),()) with
      |none=>none
      |some (.inl e3)=>
       some ((e3.1,(e3.2.1,(e3.2.2.1,(e3.2.2.2.1,(e3.2.2.2.2.1,(e3.2.2.2.2.2.1,(e3.2.2.2.2.2.2.1,()))))))),())
      |some (.inr e3)=>
       none
     else
      bif decide ((aj.1:af)=au.1) then
       match mR (aj.1,()) with
       |none=>none
       |some Gw=>
        match lR (aj.1,s.1,0,[],[],[],[],[],[],0,Gw.1,()) with
        |none=>none
        |some (.inl mj)=>
         some ((mj.1,(mj.2.1,(mj.2.2.1,(mj.2.2.2.1,(mj.2.2.2.2.1,(mj.2.2.2.2.2.1,(mj.2.2.2.2.2.2.1,()))))))),())
        |some (.inr mj)=>
         none
      else
       match lR (aj.1,s.1,0,[],[],[],[],[],[],0,(t2,(t3,())),()) with
       |none=>none
       |some (.inl e3)=>
        some ((e3.1,(e3.2.1,(e3.2.2.1,(e3.2.2.2.1,(e3.2.2.2.2.1,(e3.2.2.2.2.2.1,(e3.2.2.2.2.2.2.1,()))))))),())
       |some (.inr e3)=>
        none
def AS (s:(List m4)×Int×Int×Bool×List a6×Unit):Option (HQ⊕((List a6×Unit)⊕Unit)):=
 bif s.2.2.2.1 then
  bif decide (0<=s.2.2.1)&&decide (s.2.2.1<(List.length s.1:Int)) then
   let t0:=(List.getD s.1 (Int.toNat s.2.2.1) (0,(0,(0,(0,(0,(0,())))))))
   match rF (t0,()) with
   |none=>none
   |some au=>
    bif (decide ((List.length s.2.2.2.2.1+List.length ([au.1]:List a6))*112<=bm)) then
     let t2:List a6:=(s.2.2.2.2.1++([au.1]:List a6))
     some (.inl (s.1,s.2.1,(i64.wrap (s.2.2.1+1)),t2,()))
    else none
  else none
 else
  some (.inr (.inl (s.2.2.2.2.1,())))
def wR (s:HQ):Option (HQ⊕((List a6×Unit)⊕Unit)):=
 let t0:=(decide (s.2.2.1<((List.length s.1):Int)))
 bif t0 then
  AS (s.1,s.2.1,s.2.2.1,(decide (s.2.2.1<s.2.1)),s.2.2.2.1,())
 else
  AS (s.1,s.2.1,s.2.2.1,false,s.2.2.2.1,())
def Jo:=bN wR
def C6 (s:(List m4)×Int×Unit):Option (List a6×Unit):=
 match Jo (s.1,s.2.1,0,[],()) with
 |none=>none
 |some (.inl z0)=>
  some (z0.1,())
 |some (.inr z0)=>
  none
def pB (s:Int×Bool×a6×Unit):Option (List ah×Unit):=
 bif s.2.1 then
  match mb (s.2.2.1.2.2.2.2.1,()) with
  |none=>none
  |some aj=>
   some (([aj.1]:List ah),())
 else
  bif decide (s.1=6) then
   some (([s.2.2.1.2.2.2.1]:List ah),())
  else
   some ([],())
def mP (s:a6×Unit):Option (List ah×Unit):=
 bif decide (s.1.1=4) then
  pB (s.1.1,true,s.1,())
 else
  pB (s.1.1,(decide (s.1.1=5)),s.1,())
def jH (s:Int×Bool×a6×Unit):Option (List ah×Unit):=
 bif s.2.1 then
  match mR (s.2.2.1.2.1,()) with
  |none=>none
  |some aj=>
   some (([aj.1]:List ah),())
 else
  bif decide (s.1=4) then
   match mb (s.2.2.1.2.2.2.2.1,()) with
   |none=>none
   |some aj=>
    match mb (s.2.2.1.2.2.2.2.2.1,()) with
    |none=>none
    |some au=>
     some (([aj.1,au.1]:List ah),())
  else
   bif decide (s.1=5) then
    match mb (s.2.2.1.2.2.2.2.2.1,()) with
    |none=>none
    |some aj=>
     some (([aj.1]:List ah),())
   else
    some (([s.2.2.1.2.2.2.1]:List ah),())
def h2 (s:a6×Unit):Option (List ah×Unit):=
 bif decide (s.1.1=1) then
  jH (s.1.1,true,s.1,())
 else
  jH (s.1.1,(decide (s.1.1=2)),s.1,())
def oi (s:sa):Option (Bool×Unit):=
 match rp (s.2.1,()) with
 |none=>none
 |some aj=>
  bif !aj.1 then
   match rp (s.1,()) with
   |none=>none
   |some au=>
    bif !au.1 then
     let t2:=(Op.bytesLess s.1.1 s.2.1.1||decide ((s.1.1:af)=s.2.1.1))
     bif t2 then
      match tT (s.1.2.1,s.2.1.2.1,()) with
      |none=>none
      |some bF=>
       some ((!bF.1),())
     else
      some (false,())
    else
     some (false,())
  else
   some (true,())
def re (s:Int×ah×List ah×Unit):Option ((Int×ah×List ah×Unit)⊕((Bool×Unit)⊕Unit)):=
 let t0:=(decide (s.1<((List.length s.2.2.1):Int)))
 bif t0 then
  bif decide (0<=s.1)&&decide (s.1<(List.length s.2.2.1:Int)) then
   let t1:=(List.getD s.2.2.1 (Int.toNat s.1) ([],([],())))
   match oi (s.2.1,t1,()) with
   |none=>none
   |some aL=>
    bif !aL.1 then
     some (.inr (.inl (false,())))
    else
     some (.inl ((i64.wrap (s.1+1)),s.2.1,s.2.2.1,()))
  else none
 else
  some (.inr (.inr (())))
def Hh:=bN re
def kk (s:a6×ah×Unit):Option (Bool×Unit):=
 match mP (s.1,()) with
 |none=>none
 |some aj=>
  bif (decide ((List.length ([]:List ah)+List.length aj.1)*32<=bm)) then
   let t1:List ah:=([]++aj.1)
   match h2 (s.1,()) with
   |none=>none
   |some aL=>
    bif decide ((List.length t1+List.length aL.1)*32<=bm) then
     match Hh (0,s.2.1,(t1++aL.1),()) with
     |none=>none
     |some (.inl z3)=>
      some (z3.1,())
     |some (.inr z3)=>
      some (true,())
    else none
  else none
def vZ (s:Int×Int×Bool×ah×List a6×List a6×Unit):Option (H3⊕((List a6×Unit)⊕Unit)):=
 bif s.2.2.1 then
  bif decide (0<=s.2.1)&&decide (s.2.1<(List.length s.2.2.2.2.2.1:Int)) then
   let t0:=(List.getD s.2.2.2.2.2.1 (Int.toNat s.2.1) (0,([],([],(([],([],())),([],([],(0,()))))))))
   match kk (t0,s.2.2.2.1,()) with
   |none=>none
   |some au=>
    bif au.1 then
     bif decide (0<=s.2.1)&&decide (s.2.1<(List.length s.2.2.2.2.2.1:Int)) then
      let t2:=(List.getD s.2.2.2.2.2.1 (Int.toNat s.2.1) (0,([],([],(([],([],())),([],([],(0,()))))))))
      bif (decide ((List.length s.2.2.2.2.1+List.length ([t2]:List a6))*112<=bm)) then
       let t3:List a6:=(s.2.2.2.2.1++([t2]:List a6))
       some (.inl (s.1,(i64.wrap (s.2.1+1)),s.2.2.2.1,t3,s.2.2.2.2.2.1,()))
      else none
     else none
    else
     some (.inl (s.1,(i64.wrap (s.2.1+1)),s.2.2.2.1,s.2.2.2.2.1,s.2.2.2.2.2.1,()))
  else none
 else
  some (.inr (.inl (s.2.2.2.2.1,())))
def ts (s:H3):Option (H3⊕((List a6×Unit)⊕Unit)):=
 let t0:=(decide (s.2.1<((List.length s.2.2.2.2.1):Int)))
 bif t0 then
  let t1:=(decide ((((List.length s.2.2.2.1):Int):Int)<s.1))
  vZ (s.1,s.2.1,t1,s.2.2.1,s.2.2.2.1,s.2.2.2.2.1,())
 else
  vZ (s.1,s.2.1,false,s.2.2.1,s.2.2.2.1,s.2.2.2.2.1,())
def P0:=bN ts
def tA (s:(List m4)×ah×Int×Unit):Option (List a6×Unit):=
 match C6 (s.1,(i64.wrap (3*s.2.2.1)),()) with
 |none=>none
 |some aj=>
  match P0 (s.2.2.1,0,s.2.1,[],aj.1,()) with
  |none=>none
  |some (.inl aH)=>
   some (aH.1,())
  |some (.inr aH)=>
   none
def PO (cQ:k6->Option (dS×Unit)) (s:List ak×(List (List af))×Int×af×Bool×bO×ah×eh×List cY×Int×(List af)×Unit):Option (Cs⊕(Ct⊕Unit)):=
 bif s.2.2.2.2.1 then
  bif (decide ((List.length s.2.2.2.2.2.2.2.2.2.2.1+List.length ([s.2.2.2.1]:List af))*16<=bm)) then
   let t0:List af:=(s.2.2.2.2.2.2.2.2.2.2.1++([s.2.2.2.1]:List af))
   some (.inl (s.1,s.2.1,(i64.wrap (s.2.2.1+1)),s.2.2.2.2.2.1,s.2.2.2.2.2.2.1,s.2.2.2.2.2.2.2.1,s.2.2.2.2.2.2.2.2.1,s.2.2.2.2.2.2.2.2.2.1,t0,()))
  else none
 else
  some (.inl (s.1,s.2.1,(i64.wrap (s.2.2.1+1)),s.2.2.2.2.2.1,s.2.2.2.2.2.2.1,s.2.2.2.2.2.2.2.1,s.2.2.2.2.2.2.2.2.1,s.2.2.2.2.2.2.2.2.2.1,s.2.2.2.2.2.2.2.2.2.2.1,()))
def wL (cQ:k6->Option (dS×Unit)) (s:Cs):Option (Cs⊕(Ct⊕Unit)):=
 bif decide ((0:Int)<(List.length s.2.1:Int)) then
  let t0:=(List.getD s.2.1 0 [])
  let t1:=(decide (s.2.2.1<((List.length t0):Int)))
  bif t1 then
   bif decide ((0:Int)<(List.length s.2.1:Int)) then
    let t2:=(List.getD s.2.1 0 [])
    bif decide (0<=s.2.2.1)&&decide (s.2.2.1<(List.length t2:Int)) then
     let t3:=(List.getD t2 (Int.toNat s.2.2.1) [])
     let t4:=(!(Op.bytesLess t3 s.2.2.2.2.1.1||decide ((t3:af)=s.2.2.2.2.1.1)))
     bif t4 then
      match yk (s.2.2.2.2.1,t3,()) with
      |none=>none
      |some fv=>
       PO cQ (s.1,s.2.1,s.2.2.1,t3,fv.1,s.2.2.2.1,s.2.2.2.2.1,s.2.2.2.2.2.1,s.2.2.2.2.2.2.1,s.2.2.2.2.2.2.2.1,s.2.2.2.2.2.2.2.2.1,())
     else
      PO cQ (s.1,s.2.1,s.2.2.1,t3,false,s.2.2.2.1,s.2.2.2.2.1,s.2.2.2.2.2.1,s.2.2.2.2.2.2.1,s.2.2.2.2.2.2.2.1,s.2.2.2.2.2.2.2.2.1,())
    else none
   else none
  else
   some (.inr (.inl (s.1,s.2.1,s.2.2.2.1,s.2.2.2.2.1,s.2.2.2.2.2.1,s.2.2.2.2.2.2.1,s.2.2.2.2.2.2.2.1,s.2.2.2.2.2.2.2.2.1,())))
 else none
def GZ (cQ:k6->Option (dS×Unit)) (s:Cs):Option (Ct⊕Unit):=bN (wL cQ) s
def tz (cQ:k6->Option (dS×Unit)) (s:HL):Option (HL⊕((bO×ah×eh×List cY×Int×List ak×List a6×(List af)×List Int×List dX×Unit)⊕Unit)):=
 let t0:Int:=((List.length s.2.2.2.2.2.2.2.2.2.2.1):Int)
 bif decide (s.2.2.1<t0) then
  bif decide (0<=s.2.2.1)&&decide (s.2.2.1<(List.length s.2.2.2.2.2.2.2.2.2.2.1:Int)) then
   let t1:=(List.getD s.2.2.2.2.2.2.2.2.2.2.1 (Int.toNat s.2.2.1) ([],([],())))
   bif (decide ((1:Int)<=(List.length s.2.1:Int))&&decide (((List.length s.2.1:Int):Int)<=(List.length s.2.1:Int))) then
    let t2:=(List.drop (Int.toNat 1) (List.take (Int.toNat (List.length s.2.1:Int)) s.2.1))
    match cQ (s.2.2.2.1,s.1,t1,t2,s.2.2.2.2.2.1,()) with
    |none=>none
    |some bF=>
     match xz (bF.1.1,bF.1.2.1,()) with
     |none=>none
     |some cN=>
      bif (decide ((List.length s.2.2.2.2.2.2.2.2.2.2.2.2.1+List.length ([bF.1.2.1]:List Int))*8<=bm)) then
       let t5:List Int:=(s.2.2.2.2.2.2.2.2.2.2.2.2.1++([bF.1.2.1]:List Int))
       match pV (cN.1,()) with
       |none=>none
       |some ht=>
        bif (decide ((List.length s.2.2.2.2.2.2.2.2.2.2.2.2.2.1+List.length ([ht.1]:List dX))*32<=bm)) then
         let t7:List dX:=(s.2.2.2.2.2.2.2.2.2.2.2.2.2.1++([ht.1]:List dX))
         some (.inl (s.1,s.2.1,(i64.wrap (s.2.2.1+1)),bF.1.1,s.2.2.2.2.1,s.2.2.2.2.2.1,s.2.2.2.2.2.2.1,s.2.2.2.2.2.2.2.1,s.2.2.2.2.2.2.2.2.1,s.2.2.2.2.2.2.2.2.2.1,s.2.2.2.2.2.2.2.2.2.2.1,s.2.2.2.2.2.2.2.2.2.2.2.1,t5,t7,()))
        else none
      else none
   else none
  else none
 else
  some (.inr (.inl (s.2.2.2.1,s.2.2.2.2.1,s.2.2.2.2.2.1,s.2.2.2.2.2.2.1,s.2.2.2.2.2.2.2.1,s.2.2.2.2.2.2.2.2.1,s.2.2.2.2.2.2.2.2.2.1,s.2.2.2.2.2.2.2.2.2.2.2.1,s.2.2.2.2.2.2.2.2.2.2.2.2.1,s.2.2.2.2.2.2.2.2.2.2.2.2.2.1,())))
def G0 (cQ:k6->Option (dS×Unit)) (s:HL):Option ((bO×ah×eh×List cY×Int×List ak×List a6×(List af)×List Int×List dX×Unit)⊕Unit):=bN (tz cQ) s
def wM (cQ:k6->Option (dS×Unit)) (s:HN):Option (HN⊕((List cY×Int×og×bO×Unit)⊕Unit)):=
 let t0:=(decide (s.1<((List.length s.2.2.2.2.2.2.2.1):Int)))
 bif t0 then
  bif decide (0<=s.1)&&decide (s.1<(List.length s.2.2.2.2.2.2.2.1:Int)) then
   let t1:=(List.getD s.2.2.2.2.2.2.2.1 (Int.toNat s.1) 0)
   match xl (s.2.2.2.2.2.1,t1,()) with
   |none=>none
   |some aL=>
    some (.inl ((i64.wrap (s.1+1)),s.2.1,s.2.2.1,s.2.2.2.1,s.2.2.2.2.1,aL.1,s.2.2.2.2.2.2.1,s.2.2.2.2.2.2.2.1,s.2.2.2.2.2.2.2.2.1,s.2.2.2.2.2.2.2.2.2.1,()))
  else none
 else
  some (.inr (.inl (s.2.1,s.2.2.1,s.2.2.2.2.1,s.2.2.2.2.2.1,())))
def G1 (cQ:k6->Option (dS×Unit)) (s:HN):Option ((List cY×Int×og×bO×Unit)⊕Unit):=bN (wM cQ) s
def mt (cQ:k6->Option (dS×Unit)) (s:bO×List cY×Int×List ak×(List af)×List Int×List dX×List a6×Unit):Option (dS×Unit):=
 match rO (s.1,(s.2.2.2.1,(s.2.2.2.2.1,(s.2.2.2.2.2.1,(s.2.2.2.2.2.2.1,(s.2.2.2.2.2.2.2.1,()))))),()) with
 |none=>none
 |some aj=>
  match G1 cQ (0,s.2.1,s.2.2.1,s.2.2.2.1,aj.1,aj.1.1,s.2.2.2.2.1,s.2.2.2.2.2.1,s.2.2.2.2.2.2.1,s.2.2.2.2.2.2.2.1,()) with
  |none=>none
  |some (.inl aH)=>
   some ((aH.2.2.2.1,(aH.2.2.1.2.1,())),())
  |some (.inr aH)=>
   none
def Bd (cQ:k6->Option (dS×Unit)) (s:Int×bO×ah×eh×List cY×Int×List ak×List a6×(List af)×List Int×List dX×Unit):Option (dS×Unit):=
 bif decide (0<=s.1)&&decide (s.1<4) then
  bif (Nat.beq (Int.toNat s.1) 3) then
   match tA (s.2.2.2.1.2.1.2.2.2.1,s.2.2.1,5,()) with
   |none=>none
   |some aj=>
    mt cQ (s.2.1,s.2.2.2.2.1,s.2.2.2.2.2.1,s.2.2.2.2.2.2.1,s.2.2.2.2.2.2.2.2.1,s.2.2.2.2.2.2.2.2.2.1,s.2.2.2.2.2.2.2.2.2.2.1,aj.1,())
  else
   bif (Nat.beq (Int.toNat s.1) 2) then
    match tA (s.2.2.2.1.2.1.2.2.1,s.2.2.1,5,()) with
    |none=>none
    |some aj=>
     mt cQ (s.2.1,s.2.2.2.2.1,s.2.2.2.2.2.1,s.2.2.2.2.2.2.1,s.2.2.2.2.2.2.2.2.1,s.2.2.2.2.2.2.2.2.2.1,s.2.2.2.2.2.2.2.2.2.2.1,aj.1,())
   else
    bif (Nat.beq (Int.toNat s.1) 1) then
     match tA (s.2.2.2.1.2.1.2.1,s.2.2.1,5,()) with
     |none=>none
     |some aj=>
      mt cQ (s.2.1,s.2.2.2.2.1,s.2.2.2.2.2.1,s.2.2.2.2.2.2.1,s.2.2.2.2.2.2.2.2.1,s.2.2.2.2.2.2.2.2.2.1,s.2.2.2.2.2.2.2.2.2.2.1,aj.1,())
    else
     bif (Nat.beq (Int.toNat s.1) 0) then
      match tA (s.2.2.2.1.2.1.1,s.2.2.1,5,()) with
      |none=>none
      |some aj=>
       mt cQ (s.2.1,s.2.2.2.2.1,s.2.2.2.2.2.1,s.2.2.2.2.2.2.1,s.2.2.2.2.2.2.2.2.1,s.2.2.2.2.2.2.2.2.2.1,s.2.2.2.2.2.2.2.2.2.2.1,aj.1,())
     else none
 else none
def GY (cQ:k6->Option (dS×Unit)) (s:Ct):Option (dS×Unit):=
 let t0:=(decide ((((List.length s.2.1):Int):Int)=0))
 bif t0 then
  match BT (s.1,s.2.2.2.1,()) with
  |none=>none
  |some au=>
   match rO (s.2.2.1,(au.1,(s.2.2.2.2.2.2.2.1,([],([],([],()))))),()) with
   |none=>none
   |some aL=>
    some ((aL.1.1,(aL.1.2.1,())),())
 else
  let t1:=(i64.wrap (((List.length s.2.2.2.2.2.2.2.1):Int)+1))
  bif (decide (0<=t1)&&decide (t1<=t1)&&decide (t1*8<=(bm:Int))) then
   match BU ((([]:List ak),(s.2.2.2.2.2.2.2.1,((List.replicate (Int.toNat t1) (0:Int)),(([]:List dX),(([]:List a6),()))))),s.2.2.2.1,()) with
   |none=>none
   |some aL=>
    match G0 cQ (s.1,s.2.1,0,s.2.2.1,s.2.2.2.1,s.2.2.2.2.1,s.2.2.2.2.2.1,s.2.2.2.2.2.2.1,[],[],aL.1,s.2.2.2.2.2.2.2.1,[],[],()) with
    |none=>none
    |some (.inl z3)=>
     let t4:=(!(aD.eqb ac z3.2.1 ([],([],()))))
     bif t4 then
      let t5:Int:=(Int.tmod ((List.length z3.2.1.1):Int) 3)
      Bd cQ ((i64.wrap (1+t5)),z3.1,z3.2.1,z3.2.2.1,z3.2.2.2.1,z3.2.2.2.2.1,z3.2.2.2.2.2.1,z3.2.2.2.2.2.2.1,z3.2.2.2.2.2.2.2.1,z3.2.2.2.2.2.2.2.2.1,z3.2.2.2.2.2.2.2.2.2.1,())
     else
      Bd cQ (0,z3.1,z3.2.1,z3.2.2.1,z3.2.2.2.1,z3.2.2.2.2.1,z3.2.2.2.2.2.1,z3.2.2.2.2.2.2.1,z3.2.2.2.2.2.2.2.1,z3.2.2.2.2.2.2.2.2.1,z3.2.2.2.2.2.2.2.2.2.1,())
    |some (.inr z3)=>
     none
  else none
def tr (cQ:k6->Option (dS×Unit)) (s:k6):Option (dS×Unit):=
 let t0:=(decide ((((List.length s.2.2.2.1):Int):Int)>0))
 bif t0 then
  match GZ cQ (s.2.1,s.2.2.2.1,0,s.1,s.2.2.1,s.2.2.2.2.1,[],0,[],()) with
  |none=>none
  |some (.inl aH)=>
   GY cQ (aH.1,aH.2.1,aH.2.2.1,aH.2.2.2.1,aH.2.2.2.2.1,aH.2.2.2.2.2.1,aH.2.2.2.2.2.2.1,aH.2.2.2.2.2.2.2.1,())
  |some (.inr aH)=>
   none
 else
  GY cQ (s.2.1,s.2.2.2.1,s.1,s.2.2.1,s.2.2.2.2.1,[],0,[],())
def wx:Nat->k6->Option (dS×Unit)
 |0,_=>none
 |n+1,s=>tr (wx n) s
def CZ (s:k6):Option (dS×Unit):=wx jB s
def C7 (s:eh×Unit):Option (ct×Unit):=
 match x7 (s.1.1,()) with
 |none=>none
 |some aj=>
  let t1:=i64.wrap (Int.tmod s.1.2.2.1 4)
  bif (decide (0<=t1)&&decide (t1<(List.length ([[],([([([97,47,98,47]:af),([98,47]:af),([99,47]:af)]:List af)]:List (List af)),([([([98,47]:af)]:List af),([([97,47,2]:af),([97,47,98,47]:af),([99,47]:af)]:List af)]:List (List af)),([([([97,47,98,47]:af),([98,47]:af)]:List af),([([97,47,98,47,2]:af),([99,47]:af),([100,47]:af)]:List af)]:List (List af))]:List (List (List af))):Int))) then
   let t2:=(List.getD ([[],([([([97,47,98,47]:af),([98,47]:af),([99,47]:af)]:List af)]:List (List af)),([([([98,47]:af)]:List af),([([97,47,2]:af),([97,47,98,47]:af),([99,47]:af)]:List af)]:List (List af)),([([([97,47,98,47]:af),([98,47]:af)]:List af),([([97,47,98,47,2]:af),([99,47]:af),([100,47]:af)]:List af)]:List (List af))]:List (List (List af))) (Int.toNat t1) [])
   match CZ (([],()),aj.1,([],([],())),t2,s.1,()) with
   |none=>none
   |some bF=>
    let t4:=(IntKind.u8.wrap (Int.tdiv s.1.2.2.1 4))
    let t5:=i64.wrap (Int.tmod t4 4)
    let t6:=(IntKind.u8.wrap (Int.tdiv s.1.2.2.1 16))
    let t7:=i64.wrap (Int.tmod t6 3)
    let t8:=(IntKind.u8.wrap (Int.tdiv s.1.2.2.1 64))
    let t9:=i64.wrap (1+(i64.wrap t8))
    some ((bF.1.1,(bF.1.2.1,(((i64.wrap (2+t5)),((i64.wrap (2+t7)),(t9,()))),()))),())
  else none
def oW (s:fc):Option (Bool×Unit):=
 bif decide (s.2.1<=s.1) then
  some ((decide (s.1<=s.2.2.1)),())
 else
  some (false,())
def Jj (s:a6×Unit):Option (Bool×Unit):=
 match oW (((List.length s.1.2.1):Int),1,65535,()) with
 |none=>none
 |some aj=>
  bif aj.1 then
   let t1:=(decide ((((List.length s.1.2.2.1):Int):Int)<=64))
   bif t1 then
    match oW (s.1.2.2.2.2.2.2.1,0,1000000000,()) with
    |none=>none
    |some aL=>
     some (aL.1,())
   else
    some (false,())
  else
   some (false,())
def Kb (s:a6×Unit):Option (a6×Unit):=
 some ((s.1.1,(s.1.2.1,(s.1.2.2.1,(([],([],())),([],([],(s.1.2.2.2.2.2.2.1,()))))))),())
def Je (s:a6×Unit):Option (Bool×Unit):=
 match oW (((List.length s.1.2.1):Int),1,65535,()) with
 |none=>none
 |some aj=>
  some (aj.1,())
def J9 (s:a6×Unit):Option (a6×Unit):=
 some ((s.1.1,(s.1.2.1,([],(([],([],())),([],([],(0,()))))))),())
def yx (s:ah×Unit):Option (Bool×Unit):=
 match j8 (s.1,()) with
 |none=>none
 |some aj=>
  bif !aj.1 then
   let t1:Int:=(if (((List.length s.1.1):Int):Int)<((List.length s.1.2.1):Int) then ((List.length s.1.2.1):Int) else ((List.length s.1.1):Int))
   some ((decide (t1<=65535)),())
  else
   some (false,())
def IH (s:a6×Unit):Option (Bool×Unit):=
 match yx (s.1.2.2.2.1,()) with
 |none=>none
 |some aj=>
  some (aj.1,())
def Jf (s:a6×Unit):Option (a6×Unit):=
 some ((s.1.1,([],([],(s.1.2.2.2.1,([],([],(0,()))))))),())
def yj (s:ah):Option (Bool×Unit):=
 match oW (((List.length s.1):Int),1,200,()) with
 |none=>none
 |some aj=>
  bif aj.1 then
   match oW (((List.length s.2.1):Int),1,200,()) with
   |none=>none
   |some au=>
    bif au.1 then
     match tf (s.1,s.2.1,()) with
     |none=>none
     |some aL=>
      bif !aL.1 then
       match tf (s.2.1,s.1,()) with
       |none=>none
       |some bF=>
        some ((!bF.1),())
      else
       some (false,())
    else
     some (false,())
  else
   some (false,())
def IJ (s:a6×Unit):Option (Bool×Unit):=
 match yj (s.1.2.2.2.2.1,s.1.2.2.2.2.2.1,()) with
 |none=>none
 |some aj=>
  some (aj.1,())
def Jg (s:a6×Unit):Option (a6×Unit):=
 some ((s.1.1,([],([],(([],([],())),(s.1.2.2.2.2.1,(s.1.2.2.2.2.2.1,(0,()))))))),())
def Qr (s:a6×Unit):Option (Bool×Unit):=
 match yj (s.1.2.2.2.2.1,s.1.2.2.2.2.2.1,()) with
 |none=>none
 |some aj=>
  some (aj.1,())
def ID (s:a6×Unit):Option (a6×Unit):=
 some ((s.1.1,([],([],(([],([],())),(s.1.2.2.2.2.1,(s.1.2.2.2.2.2.1,(0,()))))))),())
def Qw (s:a6×Unit):Option (Bool×Unit):=
 match yx (s.1.2.2.2.1,()) with
 |none=>none
 |some aj=>
  bif aj.1 then
   match oW (s.1.2.2.2.2.2.2.1,0,1000000000,()) with
   |none=>none
   |some au=>
    some (au.1,())
  else
   some (false,())
def IL (s:a6×Unit):Option (a6×Unit):=
 some ((s.1.1,([],([],(s.1.2.2.2.1,([],([],(s.1.2.2.2.2.2.2.1,()))))))),())
def ou (s:a6×Unit):Option (Bool×Unit):=
 bif decide (s.1.1=1) then
  match Jj (s.1,()) with
  |none=>none
  |some aj=>
   bif aj.1 then
    match Kb (s.1,()) with
    |none=>none
    |some au=>
     let t2:=(aD.eqb cJ au.1 s.1)
     some (t2,())
   else
    some (false,())
 else
  bif decide (s.1.1=2) then
   match Je (s.1,()) with
   |none=>none
   |some aj=>
    bif aj.1 then
     match J9 (s.1,()) with
     |none=>none
     |some au=>
      let t2:=(aD.eqb cJ au.1 s.1)
      some (t2,())
    else
     some (false,())
  else
   bif decide (s.1.1=3) then
    match IH (s.1,()) with
    |none=>none
    |some aj=>
     bif aj.1 then
      match Jf (s.1,()) with
      |none=>none
      |some au=>
       let t2:=(aD.eqb cJ au.1 s.1)
       some (t2,())
     else
      some (false,())
   else
    bif decide (s.1.1=4) then
     match IJ (s.1,()) with
     |none=>none
     |some aj=>
      bif aj.1 then
       match Jg (s.1,()) with
       |none=>none
       |some au=>
        let t2:=(aD.eqb cJ au.1 s.1)
        some (t2,())
      else
       some (false,())
    else
     bif decide (s.1.1=5) then
      match Qr (s.1,()) with
      |none=>none
      |some aj=>
       bif aj.1 then
        match ID (s.1,()) with
        |none=>none
        |some au=>
         let t2:=(aD.eqb cJ au.1 s.1)
         some (t2,())
       else
        some (false,())
     else
      bif decide (s.1.1=6) then
       match Qw (s.1,()) with
       |none=>none
       |some aj=>
        bif aj.1 then
         match IL (s.1,()) with
         |none=>none
         |some au=>
          let t2:=(aD.eqb cJ au.1 s.1)
          some (t2,())
        else
         some (false,())
      else
       some (false,())
def sO (s:List ak×Unit):Option (List ak×Unit):=bif (decide ((List.length ([]:List ak)+List.length s.1)*40<=bm)) then some (s.1,()) else none
def Ff (s:Int×List ak×List ak×Unit):Option xZ:=y5 40 s
def DA (s:List ak×ak×Unit):Option (List ak×Unit):=
 match tK (s.1,s.2.1.1,()) with
 |none=>none
 |some aj=>
  match sO (s.1,()) with
  |none=>none
  |some au=>
   bif aj.2.1 then
    bif decide (0<=aj.1)&&decide (aj.1<(List.length au.1:Int)) then
     some ((List.set au.1 (Int.toNat aj.1) s.2.1),())
    else none
   else
    match Ff (aj.1,au.1,([s.2.1]:List ak),()) with
    |none=>none
    |some aL=>
     some (aL.2.1,())
def Jh (s:uC):Option (List ak×Unit):=
 match DA (s.2.1,(s.1.2.1,(s.1.2.2.1,(s.1.2.2.2.2.2.2.1,()))),()) with
 |none=>none
 |some aj=>
  some (aj.1,())
def BJ (s:uA):Option ly:=
 match j8 (s.2.1,()) with
 |none=>none
 |some aj=>
  bif aj.1 then
   some (0,0,())
  else
   match tK (s.1,s.2.1.1,()) with
   |none=>none
   |some au=>
    let t2:=(!decide ((s.2.1.2.1:af)=[]))
    bif t2 then
     match tK (s.1,s.2.1.2.1,()) with
     |none=>none
     |some bF=>
      some (au.1,bF.1,())
    else
     some (au.1,((List.length s.1):Int),())
def Fj (s:Int×Unit):Option (List ak×Unit):=
 bif decide (s.1<0) then
  none
 else
  let t0:=i64.wrap (0-0)
  let t1:=(decide (((i64.wrap (s.1-t0)):Int)>0))
  bif t1 then
   bif (decide (0<(i64.wrap (s.1-t0)))&&decide ((i64.wrap (s.1-t0))*40<=(bm:Int))) then
    bif (decide (((0:Int):Int)<=(List.length (List.replicate (Int.toNat (i64.wrap (s.1-t0))) (([]:af),(([]:af),((0:Int),())))):Int))) then
     let t2:=(List.take 0 (List.replicate (Int.toNat (i64.wrap (s.1-t0))) (([]:af),(([]:af),((0:Int),())))))
     some (t2,())
    else none
   else none
  else
   some ([],())
def oQ (s:RM):Option (RM⊕(((List (List ak))×Int×Unit)⊕Unit)):=
 let t0:=decide (s.2.2.2.2.1<s.2.2.2.1)
 bif t0 then
  bif decide (0<=s.2.2.2.2.1)&&decide (s.2.2.2.2.1<(List.length s.2.2.1:Int)) then
   let t1:=(List.getD s.2.2.1 (Int.toNat s.2.2.2.2.1) [])
   let t2:=(i64.wrap (s.2.1+((List.length t1):Int)))
   bif decide (t2<0) then
    none
   else
    let t3:=i64.wrap (s.2.2.2.2.1+1)
    some (.inl (s.1,t2,s.2.2.1,s.2.2.2.1,t3,()))
  else none
 else
  some (.inr (.inl (s.1,s.2.1,())))
def Nt:=bN oQ
def oR (s:(List (List ak))×Int×Int×List ak×Unit):Option (((List (List ak))×Int×Int×List ak×Unit)⊕((List ak×Unit)⊕Unit)):=
 bif decide (s.2.2.1<s.2.1) then
  bif decide (0<=s.2.2.1)&&decide (s.2.2.1<(List.length s.1:Int)) then
   let t0:=(List.getD s.1 (Int.toNat s.2.2.1) [])
   bif decide ((List.length s.2.2.2.1+List.length t0)*40<=bm) then
    some (.inl (s.1,s.2.1,(i64.wrap (s.2.2.1+1)),(s.2.2.2.1++t0),()))
   else none
  else none
 else
  some (.inr (.inl (s.2.2.2.1,())))
def Nx:=bN oR
def Fe (s:(List (List ak))×Unit):Option (List ak×Unit):=
 match Nt (s.1,0,s.1,((List.length s.1):Int),0,()) with
 |none=>none
 |some (.inl z0)=>
  match Fj (z0.2.1,()) with
  |none=>none
  |some au=>
   match Nx (z0.1,((List.length z0.1):Int),0,au.1,()) with
   |none=>none
   |some (.inl z2)=>
    some (z2.1,())
   |some (.inr z2)=>
    none
 |some (.inr z0)=>
  none
def rD (s:uA):Option (List ak×Unit):=
 match BJ (s.1,s.2.1,()) with
 |none=>none
 |some aj=>
  bif decide ((0:Int)<=aj.1)&&decide (aj.1<=(List.length s.1:Int)) then
   let t1:=(List.drop 0 (List.take (Int.toNat aj.1) s.1))
   bif (decide (0<=aj.2.1)&&decide (aj.2.1<=(List.length s.1:Int))&&decide (((List.length s.1:Int):Int)<=(List.length s.1:Int))) then
    let t2:=(List.drop (Int.toNat aj.2.1) (List.take (Int.toNat (List.length s.1:Int)) s.1))
    match Fe (([t1,t2]:List (List ak)),()) with
    |none=>none
    |some bF=>
     some (bF.1,())
   else none
  else none
def Li (s:xX):Option (List ak×Unit):=
 match oz (s.2.1,()) with
 |none=>none
 |some aj=>
  match rD (s.1,aj.1,()) with
  |none=>none
  |some au=>
   some (au.1,())
def Jb (s:uC):Option (List ak×Unit):=
 match Li (s.2.1,s.1.2.1,()) with
 |none=>none
 |some aj=>
  some (aj.1,())
def IF (s:uC):Option (List ak×Unit):=
 match rD (s.2.1,s.1.2.2.2.1,()) with
 |none=>none
 |some aj=>
  some (aj.1,())
def CT (s:uA):Option (List ak×Unit):=
 match BJ (s.1,s.2.1,()) with
 |none=>none
 |some aj=>
  bif (decide (0<=aj.1)&&decide (aj.1<=aj.2.1)&&decide (aj.2.1<=(List.length s.1:Int))&&decide (aj.2.1=aj.2.1)) then
   let t1:=(List.drop (Int.toNat aj.1) (List.take (Int.toNat aj.2.1) s.1))
   some (t1,())
  else none
def w2 (s:RT):Option (RT⊕((List ak×Unit)⊕Unit)):=
 bif decide (s.2.2.2.1<s.2.2.1) then
  bif decide (0<=s.2.2.2.1)&&decide (s.2.2.2.1<(List.length s.2.2.2.2.1:Int)) then
   let t0:=(List.getD s.2.2.2.2.1 (Int.toNat s.2.2.2.1) ([],([],(0,()))))
   match rC (t0.1,s.1,s.2.1,()) with
   |none=>none
   |some au=>
    bif decide (0<=s.2.2.2.1)&&decide (s.2.2.2.1<(List.length s.2.2.2.2.1:Int)) then
     let t2:=(List.set s.2.2.2.2.1 (Int.toNat s.2.2.2.1) (au.1,(List.getD s.2.2.2.2.1 (Int.toNat s.2.2.2.1) ([],([],(0,())))).2))
     let t3:=i64.wrap (s.2.2.2.1+1)
     some (.inl (s.1,s.2.1,s.2.2.1,t3,t2,()))
    else none
  else none
 else
  some (.inr (.inl (s.2.2.2.2.1,())))
def Ka:=bN w2
def Dq (s:List ak×af×af×Unit):Option (List ak×Unit):=
 match kT (s.2.1,()) with
 |none=>none
 |some aj=>
  match CT (s.1,aj.1,()) with
  |none=>none
  |some au=>
   match sO (au.1,()) with
   |none=>none
   |some aL=>
    match Ka (s.2.1,s.2.2.1,((List.length aL.1):Int),0,aL.1,()) with
    |none=>none
    |some (.inl z3)=>
     some (z3.1,())
    |some (.inr z3)=>
     none
def PR (s:qe):Option (qe⊕(qe⊕Unit)):=
 bif decide ((0:Int)<(List.length s.2.1:Int)) then
  let t0:=(List.getD s.2.1 0 ([],([],(0,()))))
  bif (decide ((List.length s.2.2.1+List.length ([t0]:List ak))*40<=bm)) then
   let t1:List ak:=(s.2.2.1++([t0]:List ak))
   bif (decide ((1:Int)<=(List.length s.2.1:Int))&&decide (((List.length s.2.1:Int):Int)<=(List.length s.2.1:Int))) then
    let t2:=(List.drop (Int.toNat 1) (List.take (Int.toNat (List.length s.2.1:Int)) s.2.1))
    some (.inl (s.1,t2,t1,()))
   else none
  else none
 else none
def AT (s:List ak×List ak×Bool×List ak×Unit):Option (qe⊕(qe⊕Unit)):=
 bif s.2.2.1 then
  some (.inr (.inl (s.1,s.2.1,s.2.2.2.1,())))
 else
  bif decide ((0:Int)<(List.length s.1:Int)) then
   let t0:=(List.getD s.1 0 ([],([],(0,()))))
   bif decide ((0:Int)<(List.length s.2.1:Int)) then
    let t1:=(List.getD s.2.1 0 ([],([],(0,()))))
    bif (Op.bytesLess t0.1 t1.1) then
     bif decide ((0:Int)<(List.length s.1:Int)) then
      let t2:=(List.getD s.1 0 ([],([],(0,()))))
      bif (decide ((List.length s.2.2.2.1+List.length ([t2]:List ak))*40<=bm)) then
       let t3:List ak:=(s.2.2.2.1++([t2]:List ak))
       bif (decide ((1:Int)<=(List.length s.1:Int))&&decide (((List.length s.1:Int):Int)<=(List.length s.1:Int))) then
        let t4:=(List.drop (Int.toNat 1) (List.take (Int.toNat (List.length s.1:Int)) s.1))
        some (.inl (t4,s.2.1,t3,()))
       else none
      else none
     else none
    else
     bif decide ((0:Int)<(List.length s.1:Int)) then
      let t2:=(List.getD s.1 0 ([],([],(0,()))))
      bif decide ((0:Int)<(List.length s.2.1:Int)) then
       let t3:=(List.getD s.2.1 0 ([],([],(0,()))))
       bif decide ((t2.1:af)=t3.1) then
        bif (decide ((1:Int)<=(List.length s.1:Int))&&decide (((List.length s.1:Int):Int)<=(List.length s.1:Int))) then
         let t4:=(List.drop (Int.toNat 1) (List.take (Int.toNat (List.length s.1:Int)) s.1))
         PR (t4,s.2.1,s.2.2.2.1,())
        else none
       else
        PR (s.1,s.2.1,s.2.2.2.1,())
      else none
     else none
   else none
  else none
def wN (s:qe):Option (qe⊕(qe⊕Unit)):=
 let t0:=(decide ((((List.length s.1):Int):Int)=0))
 bif !t0 then
  let t1:=(decide ((((List.length s.2.1):Int):Int)=0))
  AT (s.1,s.2.1,t1,s.2.2.1,())
 else
  AT (s.1,s.2.1,true,s.2.2.1,())
def Ix:=bN wN
def CU (s:xZ):Option (List ak×Unit):=
 let t0:=(i64.wrap (((List.length s.1):Int)+((List.length s.2.1):Int)))
 bif (decide (0<=0)&&decide ((0:Int)<=t0)&&decide (t0*40<=(bm:Int))) then
  match Ix (s.1,s.2.1,(List.replicate 0 (([]:af),(([]:af),((0:Int),())))),()) with
  |none=>none
  |some (.inl aH)=>
   bif decide ((List.length aH.2.2.1+List.length aH.1)*40<=bm) then
    bif (decide ((List.length (aH.2.2.1++aH.1)+List.length aH.2.1)*40<=bm)) then
     some (((aH.2.2.1++aH.1)++aH.2.1),())
    else none
   else none
  |some (.inr aH)=>
   none
 else none
def AW (s:uC):Option (List ak×Unit):=
 match kT (s.1.2.2.2.2.2.1,()) with
 |none=>none
 |some aj=>
  match rD (s.2.1,aj.1,()) with
  |none=>none
  |some au=>
   match Dq (s.2.1,s.1.2.2.2.2.1,s.1.2.2.2.2.2.1,()) with
   |none=>none
   |some aL=>
    match CU (au.1,aL.1,()) with
    |none=>none
    |some bF=>
     some (bF.1,())
def G5 (s:uC):Option (List ak×Unit):=
 match AW (s.1,s.2.1,()) with
 |none=>none
 |some aj=>
  match kT (s.1.2.2.2.2.1,()) with
  |none=>none
  |some au=>
   match rD (aj.1,au.1,()) with
   |none=>none
   |some aL=>
    some (aL.1,())
def AP (s:Int×Int×a6×List ak×Unit):Option ((Int×Int×a6×List ak×Unit)⊕((List ak×Unit)⊕Unit)):=
 bif decide (s.2.1<s.1) then
  bif decide (0<=s.2.1)&&decide (s.2.1<(List.length s.2.2.2.1:Int)) then
   let t0:=(List.getD s.2.2.2.1 (Int.toNat s.2.1) ([],([],(0,()))))
   match pZ (s.2.2.1.2.2.2.1,t0.1,()) with
   |none=>none
   |some au=>
    bif au.1 then
     bif decide (0<=s.2.1)&&decide (s.2.1<(List.length s.2.2.2.1:Int)) then
      let t2:=(List.set s.2.2.2.1 (Int.toNat s.2.1) ((List.getD s.2.2.2.1 (Int.toNat s.2.1) ([],([],(0,())))).1,((List.getD s.2.2.2.1 (Int.toNat s.2.1) ([],([],(0,())))).2.1,(s.2.2.1.2.2.2.2.2.2.1,(List.getD s.2.2.2.1 (Int.toNat s.2.1) ([],([],(0,())))).2.2.2))))
      some (.inl (s.1,(i64.wrap (s.2.1+1)),s.2.2.1,t2,()))
     else none
    else
     some (.inl (s.1,(i64.wrap (s.2.1+1)),s.2.2.1,s.2.2.2.1,()))
  else none
 else
  some (.inr (.inl (s.2.2.2.1,())))
def PM:=bN AP
def Qu (s:uC):Option (List ak×Unit):=
 match sO (s.2.1,()) with
 |none=>none
 |some aj=>
  match PM (((List.length aj.1):Int),0,s.1,aj.1,()) with
  |none=>none
  |some (.inl aH)=>
   some (aH.1,())
  |some (.inr aH)=>
   none
def pS (s:List ak×a6×Unit):Option (List ak×Unit):=
 bif decide (s.2.1.1=1) then
  match Jh (s.2.1,s.1,()) with
  |none=>none
  |some aj=>
   some (aj.1,())
 else
  bif decide (s.2.1.1=2) then
   match Jb (s.2.1,s.1,()) with
   |none=>none
   |some aj=>
    some (aj.1,())
  else
   bif decide (s.2.1.1=3) then
    match IF (s.2.1,s.1,()) with
    |none=>none
    |some aj=>
     some (aj.1,())
   else
    bif decide (s.2.1.1=4) then
     match G5 (s.2.1,s.1,()) with
     |none=>none
     |some aj=>
      some (aj.1,())
    else
     bif decide (s.2.1.1=5) then
      match AW (s.2.1,s.1,()) with
      |none=>none
      |some aj=>
       some (aj.1,())
     else
      bif decide (s.2.1.1=6) then
       match Qu (s.2.1,s.1,()) with
       |none=>none
       |some aj=>
        some (aj.1,())
      else
       some (s.1,())
def XL (s:List cY×List Int×List cY×Unit):Option ((List cY×List Int×List cY×Unit)⊕((List cY×List cY×Unit)⊕Unit)):=
 let t0:=(decide ((((List.length s.2.1):Int):Int)>0))
 bif t0 then
  let t1:=(i64.wrap (((List.length s.2.1):Int)-1))
  bif decide (0<=t1)&&decide (t1<(List.length s.2.1:Int)) then
   let t2:=(List.getD s.2.1 (Int.toNat t1) 0)
   let t3:=(i64.wrap (((List.length s.2.1):Int)-1))
   bif decide ((0:Int)<=t3)&&decide (t3<=(List.length s.2.1:Int)) then
    bif decide (0<=t2)&&decide (t2<(List.length s.2.2.1:Int)) then
     let t4:=(List.getD s.2.2.1 (Int.toNat t2) (false,(false,(0,(([],([],([],([],([],()))))),())))))
     let t5:=i64.wrap (t4.2.2.1-1)
     let t6:=(List.set s.2.2.1 (Int.toNat t2) ((List.getD s.2.2.1 (Int.toNat t2) (false,(false,(0,(([],([],([],([],([],()))))),()))))).1,((List.getD s.2.2.1 (Int.toNat t2) (false,(false,(0,(([],([],([],([],([],()))))),()))))).2.1,(t5,(List.getD s.2.2.1 (Int.toNat t2) (false,(false,(0,(([],([],([],([],([],()))))),()))))).2.2.2))))
     let t7:=(List.getD t6 (Int.toNat t2) (false,(false,(0,(([],([],([],([],([],()))))),())))))
     bif decide (t7.2.2.1>0) then
      some (.inl (s.1,(List.take (Int.toNat t3) s.2.1),t6,()))
     else
      let t8:=(List.getD t6 (Int.toNat t2) (false,(false,(0,(([],([],([],([],([],()))))),())))))
      bif (decide ((List.length (List.take (Int.toNat t3) s.2.1)+List.length t8.2.2.2.1.2.2.1)*8<=bm)) then
       let t9:=(List.take (Int.toNat t3) s.2.1++t8.2.2.2.1.2.2.1)
       let t10:=(List.set t6 (Int.toNat t2) (false,(false,(0,(([],([],([],([],([],()))))),())))))
       some (.inl (s.1,t9,t10,()))
      else none
    else none
   else none
  else none
 else
  some (.inr (.inl (s.1,s.2.2.1,())))
def XN:=bN XL
def K5 (s:dS):Option dS:=
 match xw (s.1,s.2.1,()) with
 |none=>none
 |some aj=>
  bif !aj.1 then
   some (s.1,110,())
  else
   match KM (s.1,()) with
   |none=>none
   |some au=>
    match XN ([],([s.2.1]:List Int),au.1,()) with
    |none=>none
    |some (.inl z2)=>
     some ((z2.2.1,()),0,())
    |some (.inr z2)=>
     none
def aez (s:List a6×Unit):Option (List a6×Unit):=
 bif (decide (0<=0)&&decide ((0:Int)<=((List.length s.1):Int))&&decide ((((List.length s.1):Int):Int)<=(List.length s.1:Int))&&decide ((((List.length s.1):Int):Int)=((List.length s.1):Int))) then
  let t0:=(List.drop 0 (List.take (Int.toNat ((List.length s.1):Int)) s.1))
  some (t0,())
 else none
def LH (s:ct×a6×Unit):Option (ct×Int×Unit):=
 match ou (s.2.1,()) with
 |none=>none
 |some aj=>
  bif !aj.1 then
   some (s.1,50,())
  else
   match kh (s.1.1,s.1.2.1,()) with
   |none=>none
   |some au=>
    bif (!decide (au.2.1=0)) then
     some (s.1,au.2.1,())
    else
     match rQ (au.1,()) with
     |none=>none
     |some aL=>
      bif aL.1 then
       match pS (au.1.1,s.2.1,()) with
       |none=>none
       |some bF=>
        match DV (s.1.1,(bF.1,(au.1.2.1,(au.1.2.2.1,(au.1.2.2.2.1,(au.1.2.2.2.2.1,()))))),()) with
        |none=>none
        |some cN=>
         bif (!decide (cN.2.2.1=0)) then
          some (s.1,cN.2.2.1,())
         else
          match K5 (cN.1,s.1.2.1,()) with
          |none=>none
          |some fv=>
           bif (!decide (fv.2.1=0)) then
            some (s.1,fv.2.1,())
           else
            some ((fv.1,(cN.2.1,(s.1.2.2.1,()))),0,())
      else
       match aez (au.1.2.2.2.2.1,()) with
       |none=>none
       |some bF=>
        bif (decide (0<List.length ([s.2.1]:List a6))&&decide ((List.length bF.1+List.length ([s.2.1]:List a6))*112<=bm)) then
         let t4:List a6:=(bF.1++([s.2.1]:List a6))
         match DV (s.1.1,(au.1.1,(au.1.2.1,(au.1.2.2.1,(au.1.2.2.2.1,(t4,()))))),()) with
         |none=>none
         |some fv=>
          bif (!decide (fv.2.2.1=0)) then
           some (s.1,fv.2.2.1,())
          else
           match K5 (fv.1,s.1.2.1,()) with
           |none=>none
           |some ht=>
            bif (!decide (ht.2.1=0)) then
             some (s.1,ht.2.1,())
            else
             some ((ht.1,(fv.2.1,(s.1.2.2.1,()))),0,())
        else none
def VC (s:Int×ct×bs×Unit):Option ((Int×ct×bs×Unit)⊕((Int×Unit)⊕Unit)):=
 match rQ (s.2.2.1,()) with
 |none=>none
 |some aj=>
  bif !aj.1 then
   bif decide ((0:Int)<(List.length s.2.2.1.2.2.1:Int)) then
    match kh (s.2.1.1,(List.getD s.2.2.1.2.2.1 0 0),()) with
    |none=>none
    |some au=>
     some (.inl ((i64.wrap (s.1+1)),s.2.1,au.1,()))
   else none
  else
   some (.inr (.inl (s.1,())))
def VE:=bN VC
def Kw (s:ct×Unit):Option (Int×Unit):=
 match kh (s.1.1,s.1.2.1,()) with
 |none=>none
 |some aj=>
  match VE (1,s.1,aj.1,()) with
  |none=>none
  |some (.inl aH)=>
   some (aH.1,())
  |some (.inr aH)=>
   none
def Kr (s:Unit):Option (ct×Unit):=
 match rO (([],()),(([(([97,47,120]:af),(([49]:af),(0,())))]:List ak),([],([],([],([],()))))),()) with
 |none=>none
 |some aj=>
  match rO (aj.1.1,([],([],([],([],([],()))))),()) with
  |none=>none
  |some au=>
   match rO (au.1.1,([],(([([98,47]:af)]:List af),(([aj.1.2.1,au.1.2.1]:List Int),(([((0,(0,())),((0,(0,())),())),((0,(0,())),((0,(0,())),()))]:List dX),(([(4,([],([],(([],([],())),(([97,47]:af),(([99,47]:af),(0,())))))))]:List a6),()))))),()) with
   |none=>none
   |some aL=>
    match xl (aL.1.1,aj.1.2.1,()) with
    |none=>none
    |some bF=>
     match xl (bF.1,au.1.2.1,()) with
     |none=>none
     |some cN=>
      some ((cN.1,(aL.1.2.1,((2,(2,(1,()))),()))),())
def pa (s:Int×ah×List ah×bO×Int×Unit):Option (bO×Int×Int×ah×List ah×Unit):=
 some (s.2.2.2.1,s.2.2.2.2.1,s.1,s.2.1,s.2.2.1,())
def Fb (s:List ah×Unit):Option (List ah×Unit):=bif (decide ((List.length ([]:List ah)+List.length s.1)*32<=bm)) then some (s.1,()) else none
def zh (s:kq):Option (kq⊕((Int×List ah×Unit)⊕(List ah×Unit))):=
 bif decide (s.2.1<s.1) then
  bif decide (0<=s.2.1)&&decide (s.2.1<(List.length s.2.2.1:Int)) then
   let t0:=(List.getD s.2.2.1 (Int.toNat s.2.1) ([],([],())))
   match j8 (t0,()) with
   |none=>none
   |some au=>
    bif au.1 then
     some (.inr (.inl (s.2.1,s.2.2.1,())))
    else
     some (.inl (s.1,(i64.wrap (s.2.1+1)),s.2.2.1,()))
  else none
 else
  some (.inr (.inr (s.2.2.1,())))
def MH:=bN zh
def ve (s:List ah×Unit):Option (Int×List ah×Unit):=
 match MH (((List.length s.1):Int),0,s.1,()) with
 |none=>none
 |some (.inl z0)=>
  some (z0.1,z0.2.1,())
 |some (.inr z0)=>
  some ((-1:Int),z0.1,())
def vd (s:kq):Option (kq⊕((Int×List ah×Unit)⊕Unit)):=
 let t0:=(decide (s.2.1<((List.length s.2.2.1):Int)))
 bif t0 then
  bif decide (0<=s.2.1)&&decide (s.2.1<(List.length s.2.2.1:Int)) then
   let t1:=(List.getD s.2.2.1 (Int.toNat s.2.1) ([],([],())))
   match j8 (t1,()) with
   |none=>none
   |some aL=>
    bif !aL.1 then
     bif decide (0<=s.1)&&decide (s.1<(List.length s.2.2.1:Int)) then
      some (.inl ((i64.wrap (s.1+1)),(i64.wrap (s.2.1+1)),(List.set s.2.2.1 (Int.toNat s.1) t1),()))
     else none
    else
     some (.inl (s.1,(i64.wrap (s.2.1+1)),s.2.2.1,()))
  else none
 else
  some (.inr (.inl (s.1,s.2.2.1,())))
def MW:=bN vd
def zt (s:List ah×Unit):Option (List ah×Unit):=
 match ve (s.1,()) with
 |none=>none
 |some aj=>
  bif decide (aj.1=(-1:Int)) then
   some (aj.2.1,())
  else
   match MW (aj.1,(i64.wrap (aj.1+1)),aj.2.1,()) with
   |none=>none
   |some (.inl aH)=>
    bif (decide (0<=aH.1)&&decide (aH.1<=(List.length aH.2.1:Int))&&decide (((List.length aH.2.1:Int):Int)<=(List.length aH.2.1:Int))) then
     let t2:=(List.take (Int.toNat aH.1) aH.2.1++List.replicate ((Int.toNat (List.length aH.2.1:Int))-(Int.toNat aH.1)) (([]:af),(([]:af),()))++List.drop ((Int.toNat aH.1)+((Int.toNat (List.length aH.2.1:Int))-(Int.toNat aH.1))) aH.2.1)
     bif decide ((0:Int)<=aH.1)&&decide (aH.1<=(List.length t2:Int)) then
      some ((List.take (Int.toNat aH.1) t2),())
     else none
    else none
   |some (.inr aH)=>
    none
end D
