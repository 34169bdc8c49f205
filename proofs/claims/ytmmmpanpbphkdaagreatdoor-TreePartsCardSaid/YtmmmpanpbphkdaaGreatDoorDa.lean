import Derived.Test.YtmmmpanpbphkdaaGreatDoorXD
set_option linter.unusedVariables false
open Go Go.X
open Go.IntKind (i64)
namespace D
abbrev af:=List UInt8
abbrev jJ:Type:=Int×Int×Unit
abbrev hf:Type:=af×Int×Unit
abbrev fa:Type:=Int×Int×Int×Unit
abbrev tJ:Type:=jJ×Unit
abbrev ah:Type:=af×af×Unit
abbrev ak:Type:=af×af×Int×Unit
abbrev im:Type:=af×Int×Int×af×Unit
abbrev dY:Type:=jJ×jJ×Unit
abbrev mL:Type:=ak×Bool×Int×Int×Unit
abbrev mG:Type:=Bool×Bool×ak×af×Bool×Int×Unit
abbrev a6:Type:=Int×af×af×ah×af×af×Int×Unit
abbrev bq:Type:=List ak×(List af)×List Int×List dY×List a6×Unit
abbrev eg:Type:=List fa×((List (Int×Int×Int×Int×Int×Int×Unit))×(List (Int×Int×Int×Int×Int×Int×Unit))×(List (Int×Int×Int×Int×Int×Int×Unit))×(List (Int×Int×Int×Int×Int×Int×Unit))×Unit)×Int×Unit
abbrev cX:Type:=Bool×Bool×Int×bq×Unit
abbrev bN:Type:=List cX×Unit
abbrev er:Type:=bN×Int×Unit
abbrev n7:Type:=bN×Int×Int×Unit
abbrev cy:Type:=bN×Int×fa×Unit
@[reducible] def hv:aD:=(.pair (.int .i64) (.pair (.int .i64) .unit))
@[reducible] def CW:aD:=(.pair (.int .i64) hv)
@[reducible] def Xx:aD:=(.pair hv .unit)
@[reducible] def ac:aD:=(.pair .str (.pair .str .unit))
@[reducible] def bd:aD:=(.pair .str (.pair .str (.pair (.int .i64) .unit)))
@[reducible] def fX:aD:=(.pair .str (.pair (.int .i64) (.pair (.int .i64) (.pair .str .unit))))
@[reducible] def dK:aD:=(.pair hv Xx)
@[reducible] def alb:aD:=(.pair .str (.pair .bool (.pair .bool (.pair .str (.pair .bool (.pair (.int .i64) .unit))))))
@[reducible] def XI:aD:=(.pair bd (.pair .bool hv))
@[reducible] def Gd:aD:=(.pair (.pair .str .unit) (.pair fX .unit))
@[reducible] def ik:aD:=(.pair .bool (.pair .bool (.pair bd (.pair .str (.pair .bool (.pair (.int .i64) .unit))))))
@[reducible] def cQ:aD:=(.pair (.int .i64) (.pair .str (.pair .str (.pair ac bd))))
@[reducible] def dE:aD:=(.pair (.list bd) (.pair (.list .str) (.pair (.list (.int .i64)) (.pair (.list dK) (.pair (.list cQ) .unit)))))
@[reducible] def lb:aD:=(.pair (.list (.pair (.int .u8) (.pair (.int .u8) (.pair (.int .u8) .unit)))) (.pair (.pair (.list (.pair (.int .u8) (.pair (.int .u8) (.pair (.int .u8) (.pair (.int .u8) (.pair (.int .u8) (.pair (.int .u8) .unit))))))) (.pair (.list (.pair (.int .u8) (.pair (.int .u8) (.pair (.int .u8) (.pair (.int .u8) (.pair (.int .u8) (.pair (.int .u8) .unit))))))) (.pair (.list (.pair (.int .u8) (.pair (.int .u8) (.pair (.int .u8) (.pair (.int .u8) (.pair (.int .u8) (.pair (.int .u8) .unit))))))) (.pair (.list (.pair (.int .u8) (.pair (.int .u8) (.pair (.int .u8) (.pair (.int .u8) (.pair (.int .u8) (.pair (.int .u8) .unit))))))) .unit)))) (.pair (.int .u8) .unit)))
@[reducible] def hV:aD:=(.pair .bool (.pair .bool (.pair (.int .i64) (.pair dE .unit))))
@[reducible] def c8:aD:=(.pair (.list hV) .unit)
@[reducible] def eR:aD:=(.pair c8 (.pair (.int .i64) .unit))
@[reducible] def iY:aD:=(.pair c8 hv)
@[reducible] def iq:aD:=(.pair c8 (.pair (.int .i64) (.pair CW .unit)))
abbrev QP:Type:=af×af×af×(Int×Int×Int×Int×Int×Int×Unit)×Int×af×af×af×af×af×af×Int×ah×Unit
abbrev QQ:Type:=Int×Int×List a6×Bool×Bool×af×af×Int×af×Bool×Int×Bool×Bool×af×af×Int×af×Bool×Int×Unit
abbrev Hu:Type:=List ak×(List (List af))×Int×bN×ah×eg×List cX×Int×List ak×List a6×List ah×(List af)×List Int×List dY×Unit
abbrev Cd:Type:=Int×List a6×Bool×Bool×af×af×Int×af×Bool×Int×Bool×Bool×af×af×Int×af×Bool×Int×Unit
abbrev Hl:Type:=Bool×Int×Bool×Bool×af×af×Int×af×Bool×Int×Bool×Bool×af×af×Int×af×Bool×Int×Unit
abbrev B6:Type:=List ak×(List (List af))×Int×bN×ah×eg×List cX×Int×(List af)×Unit
abbrev Hm:Type:=Int×List cX×Int×List ak×n7×bN×(List af)×List Int×List dY×List a6×Unit
abbrev Qt:Type:=List ah×Int×Int×List ah×Int×Int×List ah×ah×List ah×Unit
abbrev B7:Type:=List ak×(List (List af))×bN×ah×eg×List cX×Int×(List af)×Unit
abbrev Qu:Type:=Int×Int×Bool×Int×Int×ah×List ah×bN×Int×List ak×List ak×Unit
abbrev Hn:Type:=List ak×List ah×Int×Int×bN×Int×bq×ah×List ah×Unit
abbrev Ho:Type:=List ak×Int×Int×bN×Int×bq×List ah×List ah×List ak×Unit
abbrev Qv:Type:=List dY×Int×Int×bq×Int×Int×Int×Int×Int×Int×Int×Int×Unit
abbrev RK:Type:=Int×Int×Int×Int×ah×List ah×bN×Int×List ak×List ak×Unit
abbrev Qw:Type:=af×Int×List mG×cy×af×af×Int×Bool×Int×Unit
abbrev uk:Type:=a6×Bool×Bool×af×af×Int×af×Bool×Int×Unit
abbrev Qx:Type:=af×(List af)×Int×Int×ah×List ah×Unit
abbrev Hp:Type:=(List (Int×Int×Int×Int×Int×Int×Unit))×Int×Int×List a6×Unit
abbrev xt:Type:=List a6×Int×Int×Int×Int×Int×Int×Int×Int×Int×Int×Unit
abbrev Qy:Type:=af×(List af)×Int×Int×bq×ah×Unit
abbrev Qz:Type:=(List af)×af×Int×ah×List ah×Unit
abbrev QA:Type:=Int×Int×Int×Bool×Bool×Int×Int×Bool×List ah×Unit
abbrev QB:Type:=Int×Int×Int×List ah×a6×ah×List ah×Unit
abbrev QC:Type:=Int×Bool×af×af×Int×Int×af×Unit
abbrev kY:Type:=bN×List ak×ah×(List (List af))×eg×Unit
abbrev QD:Type:=Int×Int×Int×Bool×Bool×Int×Int×List ah×Unit
abbrev Hq:Type:=List ah×Int×Int×List ah×List ah×Unit
abbrev kZ:Type:=Int×Int×ah×List ah×bN×Int×List ak×Unit
abbrev Hk:Type:=af×Int×af×Int×Int×af×Unit
abbrev Qp:Type:=af×List ah×Int×Int×List ah×Unit
abbrev Qq:Type:=(List (List ak))×Int×(List (List ak))×Int×Int×Unit
abbrev B5:Type:=Int×Int×Int×Int×bN×bq×List ah×Unit
abbrev Qr:Type:=Int×Int×bq×List cX×Int×Int×List cX×Unit
abbrev Qs:Type:=af×af×Int×(List af)×Unit
abbrev QS:Type:=(List af)×af×Int×Int×Int×Unit
abbrev Cl:Type:=Int×bq×Int×Int×Int×Int×dY×Unit
abbrev xA:Type:=af×af×Int×Int×af×Unit
abbrev xB:Type:=af×af×af×List Int×Unit
abbrev Cm:Type:=Bool×im×af×Int×Int×af×Unit
abbrev QT:Type:=List Int×Int×Int×bN×bq×List cX×Unit
abbrev QU:Type:=Int×List Int×Int×Int×List cX×List cX×Unit
abbrev lE:Type:=bq×ah×List ah×bN×Int×Unit
abbrev QW:Type:=af×af×Int×Int×List ak×Unit
abbrev oI:Type:=Int×Int×Int×Bool×Bool×List ah×Unit
abbrev QX:Type:=Int×Int×Int×Int×Bool×List ah×Unit
abbrev uw:Type:=Int×Int×Int×Int×Int×List ah×Unit
abbrev HD:Type:=Int×Int×Int×Int×List ah×Int×Unit
abbrev QY:Type:=List ak×Int×Int×Int×Int×Int×Int×Unit
abbrev QZ:Type:=List ak×Bool×Int×Bool×ak×List ak×Unit
abbrev HE:Type:=af×Int×af×af×Unit
abbrev Q0:Type:=List Int×Int×Int×bq×ah×Unit
abbrev xC:Type:=Int×bN×bq×List cX×Int×Int×Unit
abbrev Cn:Type:=Int×Int×List ah×List ah×Unit
abbrev HF:Type:=Int×Int×ah×List a6×List a6×Unit
abbrev Co:Type:=List ak×List ah×Int×List ak×Unit
abbrev kk:Type:=Int×Int×Int×Int×List ah×Unit
abbrev Cp:Type:=Int×Int×List ah×ah×Unit
abbrev nG:Type:=List ak×Bool×Int×ak×List ak×Unit
abbrev Ci:Type:=Int×Int×List ak×List ah×Unit
abbrev oH:Type:=Int×Int×Int×Int×Int×Int×Unit
abbrev Hv:Type:=Int×List mG×ak×Bool×Int×Unit
abbrev dX:Type:=Int×Int×Int×List ah×Unit
abbrev xy:Type:=af×af×Bool×Unit
abbrev Hw:Type:=List ah×List ah×Unit
abbrev Cj:Type:=Int×List a6×List ah×Unit
abbrev Hx:Type:=Int×bN×bq×List ak×Unit
abbrev p4:Type:=List ak×List ak×List ak×Unit
abbrev ki:Type:=Int×Int×List ah×Unit
abbrev Hy:Type:=Int×List ah×Int×Unit
abbrev p5:Type:=bN×Int×ah×Int×Unit
abbrev p6:Type:=List ah×ah×Unit
abbrev Hz:Type:=List fa×Int×List ak×Unit
abbrev uu:Type:=List ak×List ah×Unit
abbrev HA:Type:=af×Int×Bool×Unit
abbrev HB:Type:=af×Int×Int×Unit
abbrev HC:Type:=ah×af×Unit
abbrev Ck:Type:=List ak×af×Unit
abbrev r2:Type:=ah×ah×Unit
abbrev xz:Type:=bq×ah×Unit
abbrev uv:Type:=List ak×ah×Unit
abbrev xx:Type:=List ak×List ak×Unit
abbrev um:Type:=af×Bool×Unit
abbrev Cf:Type:=cy×af×Unit
abbrev Cg:Type:=List ak×Int×Unit
abbrev uo:Type:=a6×List ak×Unit
abbrev Ch:Type:=Int×Bool×Unit
def tH (s:ah):Option (Bool×Unit):=
 let t0:=(!decide ((s.1:af)=[]))
 bif t0 then
  let t1:=decide ((s.2.1:af)=[])
  bif !t1 then
   some ((Op.bytesLess s.1 s.2.1),())
  else
   some (true,())
 else
  some (false,())
def ra (s:ah×Unit):Option (Bool×Unit):=
 let t0:=(!decide ((s.1.2.1:af)=[]))
 bif t0 then
  let t1:=(Op.bytesLess s.1.2.1 s.1.1||decide ((s.1.2.1:af)=s.1.1))
  some (t1,())
 else
  some (false,())
def J3 (s:Unit):Option (ah×Unit):=
 some ((([97]:af),(([97]:af),())),())
def GK (s:af×af×af×af×Unit):Option (ah×Unit):=
 match ra ((s.2.2.1,(s.2.2.2.1,())),()) with
 |none=>none
 |some aj=>
  bif aj.1 then
   match J3 (()) with
   |none=>none
   |some ar=>
    some (ar.1,())
  else
   some ((s.2.2.1,(s.2.2.2.1,())),())
def xF (s:r2):Option (ah×Unit):=
 let t0:af:=(bif !(Op.bytesLess s.1.1 s.2.1.1) then s.1.1 else s.2.1.1)
 match tH (s.2.1.2.1,s.1.2.1,()) with
 |none=>none
 |some ar=>
  bif ar.1 then
   GK ([],[],t0,s.2.1.2.1,())
  else
   GK ([],[],t0,s.1.2.1,())
def AD (s:Qz):Option (Qz⊕((af×ah×List ah×Unit)⊕Unit)):=
 let t0:=(decide (s.2.2.1<((List.length s.1):Int)))
 bif t0 then
  bif decide (0<=s.2.2.1)&&decide (s.2.2.1<(List.length s.1:Int)) then
   let t1:=(List.getD s.1 (Int.toNat s.2.2.1) [])
   match xF (s.2.2.2.1,(s.2.1,(t1,())),()) with
   |none=>none
   |some aM=>
    bif (decide ((List.length s.2.2.2.2.1+List.length ([aM.1]:List ah))*32<=bm)) then
     let t3:List ah:=(s.2.2.2.2.1++([aM.1]:List ah))
     bif decide (0<=s.2.2.1)&&decide (s.2.2.1<(List.length s.1:Int)) then
      let t4:=(List.getD s.1 (Int.toNat s.2.2.1) [])
      some (.inl (s.1,t4,(i64.wrap (s.2.2.1+1)),s.2.2.2.1,t3,()))
     else none
    else none
  else none
 else
  some (.inr (.inl (s.2.1,s.2.2.2.1,s.2.2.2.2.1,())))
def HQ:=bM AD
def wX (s:ah×(List af)×Unit):Option (List ah×Unit):=
 match HQ (s.2.1,[],0,s.1,[],()) with
 |none=>none
 |some (.inl z0)=>
  match xF (z0.2.1,(z0.1,([],())),()) with
  |none=>none
  |some ar=>
   bif (decide ((List.length z0.2.2.1+List.length ([ar.1]:List ah))*32<=bm)) then
    let t2:List ah:=(z0.2.2.1++([ar.1]:List ah))
    some (t2,())
   else none
 |some (.inr z0)=>
  none
def BD (s:xz):Option (List ah×Unit):=
 let t0:=(decide ((((List.length s.1.2.2.1):Int):Int)=0))
 bif t0 then
  some ([],())
 else
  match wX (s.2.1,s.1.2.1,()) with
  |none=>none
  |some ar=>
   some (ar.1,())
def xO (s:HC):Option (Bool×Unit):=
 bif (!(Op.bytesLess s.2.1 s.1.1)) then
  let t0:=decide ((s.1.2.1:af)=[])
  bif !t0 then
   some ((Op.bytesLess s.2.1 s.1.2.1),())
  else
   some (true,())
 else
  some (false,())
def AF (s:List ak×Int×ah×List ak×Unit):Option ((List ak×Int×ah×List ak×Unit)⊕((List ak×Unit)⊕Unit)):=
 let t0:=(decide (s.2.1<((List.length s.1):Int)))
 bif t0 then
  bif decide (0<=s.2.1)&&decide (s.2.1<(List.length s.1:Int)) then
   let t1:=(List.getD s.1 (Int.toNat s.2.1) ([],([],(0,()))))
   match xO (s.2.2.1,t1.1,()) with
   |none=>none
   |some aM=>
    bif aM.1 then
     bif decide (0<=s.2.1)&&decide (s.2.1<(List.length s.1:Int)) then
      let t3:=(List.getD s.1 (Int.toNat s.2.1) ([],([],(0,()))))
      bif (decide ((List.length s.2.2.2.1+List.length ([t3]:List ak))*40<=bm)) then
       let t4:List ak:=(s.2.2.2.1++([t3]:List ak))
       some (.inl (s.1,(i64.wrap (s.2.1+1)),s.2.2.1,t4,()))
      else none
     else none
    else
     some (.inl (s.1,(i64.wrap (s.2.1+1)),s.2.2.1,s.2.2.2.1,()))
  else none
 else
  some (.inr (.inl (s.2.2.2.1,())))
def HS:=bM AF
def Cy (s:uv):Option (List ak×Unit):=
 match HS (s.1,0,s.2.1,[],()) with
 |none=>none
 |some (.inl z0)=>
  some (z0.1,())
 |some (.inr z0)=>
  none
def wl (s:er):Option (Bool×Unit):=
 bif decide (s.2.1>=0) then
  let t0:=(decide (s.2.1<((List.length s.1.1):Int)))
  bif t0 then
   bif decide (0<=s.2.1)&&decide (s.2.1<(List.length s.1.1:Int)) then
    let t1:=(List.getD s.1.1 (Int.toNat s.2.1) (false,(false,(0,(([],([],([],([],([],()))))),())))))
    some (t1.1,())
   else none
  else
   some (false,())
 else
  some (false,())
def Bl (s:bN×Unit):Option bN:=
 bif (decide ((List.length ([]:List cX)+List.length s.1.1)*136<=bm)) then
  let t0:List cX:=([]++s.1.1)
  some (t0,())
 else none
def Bi (s:xC):Option (xC⊕(n7⊕(bN×bq×List cX×Int×Int×Unit))):=
 let t0:=(decide (s.1<((List.length s.2.2.1.2.2.1):Int)))
 bif t0 then
  bif decide (0<=s.1)&&decide (s.1<(List.length s.2.2.1.2.2.1:Int)) then
   let t1:=(List.getD s.2.2.1.2.2.1 (Int.toNat s.1) 0)
   match wl (s.2.1,t1,()) with
   |none=>none
   |some aM=>
    bif !aM.1 then
     some (.inr (.inl (s.2.1,0,110,())))
    else
     some (.inl ((i64.wrap (s.1+1)),s.2.1,s.2.2.1,s.2.2.2.1,s.2.2.2.2.1,s.2.2.2.2.2.1,()))
  else none
 else
  some (.inr (.inr (s.2.1,s.2.2.1,s.2.2.2.1,s.2.2.2.2.1,s.2.2.2.2.2.1,())))
def I7:=bM Bi
def Bj (s:xC):Option (xC⊕(xC⊕Unit)):=
 let t0:=(decide (s.1<((List.length s.2.1.1):Int)))
 bif t0 then
  bif decide (0<=s.1)&&decide (s.1<(List.length s.2.1.1:Int)) then
   let t1:=(List.getD s.2.1.1 (Int.toNat s.1) (false,(false,(0,(([],([],([],([],([],()))))),())))))
   bif t1.1 then
    some (.inl ((i64.wrap (s.1+1)),s.2.1,s.2.2.1,s.2.2.2.1,s.2.2.2.2.1,s.2.2.2.2.2.1,()))
   else
    some (.inr (.inl (s.1,s.2.1,s.2.2.1,s.2.2.2.1,s.2.2.2.2.1,s.2.2.2.2.2.1,())))
  else none
 else
  some (.inr (.inl (s.1,s.2.1,s.2.2.1,s.2.2.2.1,s.2.2.2.2.1,s.2.2.2.2.2.1,())))
def I8:=bM Bj
def Bk (s:Qr):Option (Qr⊕((Int×List cX×Int×Int×List cX×Unit)⊕Unit)):=
 let t0:=(decide (s.2.1<((List.length s.2.2.1.2.2.1):Int)))
 bif t0 then
  bif decide (0<=s.2.1)&&decide (s.2.1<(List.length s.2.2.1.2.2.1:Int)) then
   let t1:=(List.getD s.2.2.1.2.2.1 (Int.toNat s.2.1) 0)
   bif decide (0<=t1)&&decide (t1<(List.length s.2.2.2.2.2.2.1:Int)) then
    let t2:=(List.getD s.2.2.2.2.2.2.1 (Int.toNat t1) (false,(false,(0,(([],([],([],([],([],()))))),())))))
    let t3:=i64.wrap (t2.2.2.1+1)
    bif decide (0<=t1)&&decide (t1<(List.length s.2.2.2.2.2.2.1:Int)) then
     let t4:=(List.set s.2.2.2.2.2.2.1 (Int.toNat t1) ((List.getD s.2.2.2.2.2.2.1 (Int.toNat t1) (false,(false,(0,(([],([],([],([],([],()))))),()))))).1,((List.getD s.2.2.2.2.2.2.1 (Int.toNat t1) (false,(false,(0,(([],([],([],([],([],()))))),()))))).2.1,(t3,(List.getD s.2.2.2.2.2.2.1 (Int.toNat t1) (false,(false,(0,(([],([],([],([],([],()))))),()))))).2.2.2))))
     some (.inl (s.1,(i64.wrap (s.2.1+1)),s.2.2.1,s.2.2.2.1,s.2.2.2.2.1,s.2.2.2.2.2.1,t4,()))
    else none
   else none
  else none
 else
  some (.inr (.inl (s.1,s.2.2.2.1,s.2.2.2.2.1,s.2.2.2.2.2.1,s.2.2.2.2.2.2.1,())))
def I9:=bM Bk
def I6 (s:Int×bq×List cX×Int×Int×List cX×Unit):Option (n7×Unit):=
 bif decide (0<=s.1)&&decide (s.1<(List.length s.2.2.2.2.2.1:Int)) then
  let t0:=(List.set s.2.2.2.2.2.1 (Int.toNat s.1) (true,(false,(1,(s.2.1,())))))
  match I9 (s.1,0,s.2.1,s.2.2.1,s.2.2.2.1,s.2.2.2.2.1,t0,()) with
  |none=>none
  |some (.inl aH)=>
   some (((aH.2.2.2.2.1,()),(aH.1,(0,()))),())
  |some (.inr aH)=>
   none
 else none
def rI (s:bN×bq×Unit):Option (n7×Unit):=
 match I7 (0,s.1,s.2.1,[],0,0,()) with
 |none=>none
 |some (.inl z0)=>
  some ((z0.1,(z0.2.1,(z0.2.2.1,()))),())
 |some (.inr z0)=>
  match I8 (0,z0.1,z0.2.1,z0.2.2.1,z0.2.2.2.1,z0.2.2.2.2.1,()) with
  |none=>none
  |some (.inl aH)=>
   bif decide (aH.1>=4096) then
    some ((aH.2.1,(0,(111,()))),())
   else
    match Bl (aH.2.1,()) with
    |none=>none
    |some aM=>
     let t3:=(decide (aH.1=((List.length aM.1):Int)))
     bif t3 then
      bif (decide ((List.length aM.1+List.length ([(false,(false,(0,(([],([],([],([],([],()))))),()))))]:List cX))*136<=bm)) then
       let t4:List cX:=(aM.1++([(false,(false,(0,(([],([],([],([],([],()))))),()))))]:List cX))
       I6 (aH.1,aH.2.2.1,aH.2.2.2.1,aH.2.2.2.2.1,aH.2.2.2.2.2.1,t4,())
      else none
     else
      I6 (aH.1,aH.2.2.1,aH.2.2.2.1,aH.2.2.2.2.1,aH.2.2.2.2.2.1,aM.1,())
  |some (.inr aH)=>
   none
def J4 (s:dY×dY×Unit):Option (dY×Unit):=
 let t0:Int:=(if ((i64.wrap (s.1.1.1+s.2.1.1.1)):Int)<1000000000000000 then (i64.wrap (s.1.1.1+s.2.1.1.1)) else 1000000000000000)
 let t1:=i64.wrap (s.1.1.2.1+s.2.1.1.2.1)
 let t2:Int:=(if (t1:Int)<1000000000000000 then t1 else 1000000000000000)
 let t3:=i64.wrap (s.1.2.1.1+s.2.1.2.1.1)
 let t4:Int:=(if (t3:Int)<1000000000000000 then t3 else 1000000000000000)
 let t5:=i64.wrap (s.1.2.1.2.1+s.2.1.2.1.2.1)
 let t6:Int:=(if (t5:Int)<1000000000000000 then t5 else 1000000000000000)
 some (((t0,(t2,())),((t4,(t6,())),())),())
def HP (s:af×Int×Bool×af×Int×Int×af×af×Int×Int×af×Unit):Option (im×Unit):=
 bif s.2.2.1 then
  bif decide ((1:Int)<=s.2.1)&&decide (s.2.1<=(List.length s.1:Int)) then
   let t0:=(List.drop (Int.toNat 1) (List.take (Int.toNat s.2.1) s.1))
   some ((t0,(4,(s.2.2.2.2.2.2.2.2.2.1,(s.2.2.2.2.2.2.2.2.2.2.1,())))),())
  else none
 else
  some ((s.2.2.2.2.2.2.2.1,(s.2.2.2.2.2.2.2.2.1,(s.2.2.2.2.2.2.2.2.2.1,(s.2.2.2.2.2.2.2.2.2.2.1,())))),())
def TN (s:af×Int×af×Int×Int×af×af×Int×Int×af×Unit):Option (im×Unit):=
 let t0:=decide (s.2.2.2.2.2.2.2.1=1)
 bif t0 then
  bif decide (s.2.1>0) then
   bif decide ((0:Int)<(List.length s.1:Int)) then
    let t1:=(decide ((((List.getD s.1 0 0).toNat:Int):Int)=6))
    HP (s.1,s.2.1,t1,s.2.2.1,s.2.2.2.1,s.2.2.2.2.1,s.2.2.2.2.2.1,s.2.2.2.2.2.2.1,s.2.2.2.2.2.2.2.1,s.2.2.2.2.2.2.2.2.1,s.2.2.2.2.2.2.2.2.2.1,())
   else none
  else
   HP (s.1,s.2.1,false,s.2.2.1,s.2.2.2.1,s.2.2.2.2.1,s.2.2.2.2.2.1,s.2.2.2.2.2.2.1,s.2.2.2.2.2.2.2.1,s.2.2.2.2.2.2.2.2.1,s.2.2.2.2.2.2.2.2.2.1,())
 else
  HP (s.1,s.2.1,false,s.2.2.1,s.2.2.2.1,s.2.2.2.2.1,s.2.2.2.2.2.1,s.2.2.2.2.2.2.1,s.2.2.2.2.2.2.2.1,s.2.2.2.2.2.2.2.2.1,s.2.2.2.2.2.2.2.2.2.1,())
def TM (s:af×Int×af×af×Int×Int×af×af×Int×Int×af×Unit):Option (im×Unit):=
 let t0:=decide (s.2.2.2.2.2.2.2.2.1=3)
 bif t0 then
  TN (s.1,s.2.1,s.2.2.2.1,s.2.2.2.2.1,s.2.2.2.2.2.1,s.2.2.2.2.2.2.1,s.2.2.2.2.2.2.2.1,s.2.2.2.2.2.2.2.2.1,s.2.2.2.2.2.2.2.2.2.1,s.2.2.1,())
 else
  TN (s.1,s.2.1,s.2.2.2.1,s.2.2.2.2.1,s.2.2.2.2.2.1,s.2.2.2.2.2.2.1,s.2.2.2.2.2.2.2.1,s.2.2.2.2.2.2.2.2.1,s.2.2.2.2.2.2.2.2.2.1,s.2.2.2.2.2.2.2.2.2.2.1,())
def TO (s:af×Int×af×Bool×af×Int×Int×af×af×Int×Int×af×Unit):Option (im×Unit):=
 bif s.2.2.2.1 then
  bif decide ((0:Int)<(List.length s.2.2.1:Int)) then
   let t0:=i64.wrap ((List.getD s.2.2.1 0 0).toNat:Int)
   bif decide ((1:Int)<(List.length s.2.2.1:Int)) then
    let t1:Int:=((List.getD s.2.2.1 (Int.toNat 1) 0).toNat:Int)
    let t2:=(i64.wrap ((i64.wrap (256*t0))+(i64.wrap t1)))
    TM (s.1,s.2.1,s.2.2.1,s.2.2.2.2.1,s.2.2.2.2.2.1,s.2.2.2.2.2.2.1,s.2.2.2.2.2.2.2.1,s.2.2.2.2.2.2.2.2.1,s.2.2.2.2.2.2.2.2.2.1,t2,s.2.2.2.2.2.2.2.2.2.2.2.1,())
   else none
  else none
 else
  TM (s.1,s.2.1,s.2.2.1,s.2.2.2.2.1,s.2.2.2.2.2.1,s.2.2.2.2.2.2.1,s.2.2.2.2.2.2.2.1,s.2.2.2.2.2.2.2.2.1,s.2.2.2.2.2.2.2.2.2.1,s.2.2.2.2.2.2.2.2.2.2.1,s.2.2.2.2.2.2.2.2.2.2.2.1,())
def WO (s:hf):Option (im×Unit):=
 bif decide ((0:Int)<=s.2.1)&&decide (s.2.1<=(List.length s.1:Int)) then
  let t0:=(List.drop 0 (List.take (Int.toNat s.2.1) s.1))
  bif decide (0<=s.2.1)&&decide (s.2.1<(List.length s.1:Int)) then
   let t1:Int:=((List.getD s.1 (Int.toNat s.2.1) 0).toNat:Int)
   bif (decide (0<=(i64.wrap (s.2.1+1)))&&decide (((i64.wrap (s.2.1+1)):Int)<=(List.length s.1:Int))&&decide (((List.length s.1:Int):Int)<=(List.length s.1:Int))) then
    let t2:=(List.drop (Int.toNat (i64.wrap (s.2.1+1))) (List.take (Int.toNat (List.length s.1:Int)) s.1))
    let t3:=(decide (((i64.wrap t1):Int)=2))
    bif t3 then
     let t4:=(decide ((((List.length t2):Int):Int)=2))
     TO (s.1,s.2.1,t2,t4,[],0,0,[],t0,(i64.wrap t1),0,[],())
    else
     TO (s.1,s.2.1,t2,false,[],0,0,[],t0,(i64.wrap t1),0,[],())
   else none
  else none
 else none
def TB (s:Qs):Option (Qs⊕((af×(List af)×Unit)⊕Unit)):=
 let t0:=(decide (s.2.2.1<((List.length s.1):Int)))
 bif t0 then
  bif decide (0<=s.2.2.1)&&decide (s.2.2.1<(List.length s.1:Int)) then
   let t1:Int:=((List.getD s.1 (Int.toNat s.2.2.1) 0).toNat:Int)
   bif decide (t1=47) then
    bif (decide ((List.length s.2.2.2.1+List.length ([s.2.1]:List af))*16<=bm)) then
     let t2:List af:=(s.2.2.2.1++([s.2.1]:List af))
     some (.inl (s.1,[],(i64.wrap (s.2.2.1+1)),t2,()))
    else none
   else
    bif (decide (0<=s.2.2.1)&&decide (s.2.2.1<=(i64.wrap (s.2.2.1+1)))&&decide (((i64.wrap (s.2.2.1+1)):Int)<=(List.length s.1:Int))) then
     let t2:=(List.drop (Int.toNat s.2.2.1) (List.take (Int.toNat (i64.wrap (s.2.2.1+1))) s.1))
     bif decide (List.length s.2.1+List.length t2<=bm) then
      some (.inl (s.1,(s.2.1++t2),(i64.wrap (s.2.2.1+1)),s.2.2.2.1,()))
     else none
    else none
  else none
 else
  some (.inr (.inl (s.2.1,s.2.2.2.1,())))
def TD:=bM TB
def WN (s:af×Unit):Option (Bool×(List af)×Unit):=
 match TD (s.1,[],0,[],()) with
 |none=>none
 |some (.inl z0)=>
  let t1:=decide ((z0.1:af)=[])
  some (t1,z0.2.1,())
 |some (.inr z0)=>
  none
def Vr (s:hf):Option (hf⊕((Bool×Unit)⊕Unit)):=
 let t0:=(decide (s.2.1<((List.length s.1):Int)))
 bif t0 then
  bif decide (0<=s.2.1)&&decide (s.2.1<(List.length s.1:Int)) then
   let t1:Int:=((List.getD s.1 (Int.toNat s.2.1) 0).toNat:Int)
   bif (!(decide (t1<33))) then
    bif decide (0<=s.2.1)&&decide (s.2.1<(List.length s.1:Int)) then
     let t2:Int:=((List.getD s.1 (Int.toNat s.2.1) 0).toNat:Int)
     bif (!(decide (t2>126))) then
      bif decide (0<=s.2.1)&&decide (s.2.1<(List.length s.1:Int)) then
       let t3:Int:=((List.getD s.1 (Int.toNat s.2.1) 0).toNat:Int)
       bif decide (t3=47) then
        some (.inr (.inl (false,())))
       else
        some (.inl (s.1,(i64.wrap (s.2.1+1)),()))
      else none
     else
      some (.inr (.inl (false,())))
    else none
   else
    some (.inr (.inl (false,())))
  else none
 else
  some (.inr (.inr (())))
def Vt:=bM Vr
def J2 (s:af×Unit):Option (Bool×Unit):=
 let t0:=(decide ((((List.length s.1):Int):Int)<1))
 bif !t0 then
  let t1:=(decide ((((List.length s.1):Int):Int)>12))
  bif !t1 then
   let t2:=decide ((s.1:af)=([46]:af))
   bif !t2 then
    let t3:=decide ((s.1:af)=([46,46]:af))
    bif t3 then
     some (false,())
    else
     match Vt (s.1,0,()) with
     |none=>none
     |some (.inl z4)=>
      some (z4.1,())
     |some (.inr z4)=>
      some (true,())
   else
    some (false,())
  else
   some (false,())
 else
  some (false,())
def TI (s:Bool×Int×(List af)×Unit):Option ((Bool×Int×(List af)×Unit)⊕((Bool×Unit)⊕(Bool×Unit))):=
 let t0:=(decide (s.2.1<((List.length s.2.2.1):Int)))
 bif t0 then
  bif decide (0<=s.2.1)&&decide (s.2.1<(List.length s.2.2.1:Int)) then
   let t1:=(List.getD s.2.2.1 (Int.toNat s.2.1) [])
   match J2 (t1,()) with
   |none=>none
   |some aM=>
    bif !aM.1 then
     some (.inr (.inl (false,())))
    else
     some (.inl (s.1,(i64.wrap (s.2.1+1)),s.2.2.1,()))
  else none
 else
  some (.inr (.inr (s.1,())))
def TK:=bM TI
def BB (s:af×Unit):Option (Bool×Unit):=
 match WN (s.1,()) with
 |none=>none
 |some aj=>
  match TK (aj.1,0,aj.2.1,()) with
  |none=>none
  |some (.inl aH)=>
   some (aH.1,())
  |some (.inr aH)=>
   some (aH.1,())
def Vn (s:Int×af×Int×Unit):Option ((Int×af×Int×Unit)⊕((af×Unit)⊕Unit)):=
 bif decide (s.2.2.1<8) then
  let t0:=i64.wrap ((Int.tmod s.1 16)+1)
  bif (decide (0<=(Int.tmod s.1 16))&&decide (((Int.tmod s.1 16):Int)<=t0)&&decide (t0<=(List.length ([48,49,50,51,52,53,54,55,56,57,97,98,99,100,101,102]:af):Int))) then
   let t1:=(List.drop (Int.toNat (Int.tmod s.1 16)) (List.take (Int.toNat t0) ([48,49,50,51,52,53,54,55,56,57,97,98,99,100,101,102]:af)))
   bif decide (List.length t1+List.length s.2.1<=bm) then
    let t2:=i64.wrap (Int.tdiv s.1 16)
    some (.inl (t2,(t1++s.2.1),(i64.wrap (s.2.2.1+1)),()))
   else none
  else none
 else
  some (.inr (.inl (s.2.1,())))
def Vq:=bM Vn
def Vp (s:Ch):Option (af×Unit):=
 bif s.2.1 then
  some ([],())
 else
  match Vq (s.1,[],0,()) with
  |none=>none
  |some (.inl z0)=>
   bif decide (List.length ([5]:af)+List.length z0.1<=bm) then
    bif (decide (List.length (([5]:af)++z0.1)+List.length ([47]:af)<=bm)) then
     let t1:af:=((([5]:af)++z0.1)++([47]:af))
     some (t1,())
    else none
   else none
  |some (.inr z0)=>
   none
def XG (s:Int×Unit):Option (af×Unit):=
 bif (!(decide (s.1<0))) then
  let t0:=decide (s.1>2147483647)
  Vp (s.1,t0,())
 else
  Vp (s.1,true,())
def RC (s:af×Int×Int×Int×Bool×Unit):Option (HB⊕(hf⊕Unit)):=
 bif s.2.2.2.2.1 then
  let t0:=(i64.wrap ((i64.wrap (16*s.2.1))+s.2.2.2.1))
  some (.inl (s.1,(i64.wrap (t0-48)),(i64.wrap (s.2.2.1+1)),()))
 else
  let t0:=(i64.wrap ((i64.wrap (16*s.2.1))+s.2.2.2.1))
  let t1:=(i64.wrap ((i64.wrap (t0-97))+10))
  some (.inl (s.1,t1,(i64.wrap (s.2.2.1+1)),()))
def SS (s:HB):Option (HB⊕(hf⊕Unit)):=
 bif decide (s.2.2.1<9) then
  bif decide (0<=s.2.2.1)&&decide (s.2.2.1<(List.length s.1:Int)) then
   let t0:Int:=((List.getD s.1 (Int.toNat s.2.2.1) 0).toNat:Int)
   let t1:=(decide (((i64.wrap t0):Int)>=48))
   bif t1 then
    let t2:=(decide (((i64.wrap t0):Int)<=57))
    RC (s.1,s.2.1,s.2.2.1,(i64.wrap t0),t2,())
   else
    RC (s.1,s.2.1,s.2.2.1,(i64.wrap t0),false,())
  else none
 else
  some (.inr (.inl (s.1,s.2.1,())))
def SV:=bM SS
def G5 (s:af×Unit):Option (Bool×Unit):=
 let t0:=(!decide ((((List.length s.1):Int):Int)=10))
 bif t0 then
  some (false,())
 else
  match SV (s.1,0,1,()) with
  |none=>none
  |some (.inl aH)=>
   match XG (aH.2.1,()) with
   |none=>none
   |some aM=>
    some ((decide ((aM.1:af)=aH.1)),())
  |some (.inr aH)=>
   none
def jW (s:Bool×im×Unit):Option ((im×Unit)⊕(Bool×Unit)):=
 bif s.1 then
  some (.inr (false,()))
 else
  some (.inl (s.2.1,()))
def wk (s:im×Unit):Option ((Bool×Unit)⊕Unit):=
 bif decide (s.1.2.1=4) then
  match BB (s.1.1,()) with
  |none=>none
  |some aj=>
   some (.inl (aj.1,()))
 else
  some (.inl (false,()))
def jX (s:im×Unit):Option ((Bool×Unit)⊕Unit):=
 bif decide (s.1.2.1=1) then
  some (.inl (true,()))
 else
  bif decide (s.1.2.1=2) then
   bif decide (s.1.2.2.1>=0) then
    let t0:=decide (s.1.2.2.1<=60000)
    some (.inl (t0,()))
   else
    some (.inl (false,()))
  else
   bif decide (s.1.2.1=3) then
    match J2 (s.1.2.2.2.1,()) with
    |none=>none
    |some aj=>
     some (.inl (aj.1,()))
   else
    match wk (s.1,()) with
    |none=>none
    |some (.inl z0)=>
     some (.inl (z0.1,()))
    |some (.inr z0)=>
     none
def WQ (s:im×Unit):Option (Bool×Unit):=
 match BB (s.1.1,()) with
 |none=>none
 |some aj=>
  bif !aj.1 then
   match G5 (s.1.1,()) with
   |none=>none
   |some ar=>
    bif (!(!ar.1)) then
     bif (!decide (s.1.2.1=2)) then
      let t2:=(!decide (s.1.2.2.1=0))
      bif !t2 then
       bif (!decide (s.1.2.1=3)) then
        let t3:=(!decide ((s.1.2.2.2.1:af)=[]))
        match jW (t3,s.1,()) with
        |none=>none
        |some (.inl z4)=>
         match jX (z4.1,()) with
         |none=>none
         |some (.inl z5)=>
          some (z5.1,())
         |some (.inr z5)=>
          none
        |some (.inr z4)=>
         some (z4.1,())
       else
        match jW (false,s.1,()) with
        |none=>none
        |some (.inl z3)=>
         match jX (z3.1,()) with
         |none=>none
         |some (.inl z4)=>
          some (z4.1,())
         |some (.inr z4)=>
          none
        |some (.inr z3)=>
         some (z3.1,())
      else
       match jW (true,s.1,()) with
       |none=>none
       |some (.inl z3)=>
        match jX (z3.1,()) with
        |none=>none
        |some (.inl z4)=>
         some (z4.1,())
        |some (.inr z4)=>
         none
       |some (.inr z3)=>
        some (z3.1,())
     else
      bif (!decide (s.1.2.1=3)) then
       let t2:=(!decide ((s.1.2.2.2.1:af)=[]))
       match jW (t2,s.1,()) with
       |none=>none
       |some (.inl z3)=>
        match jX (z3.1,()) with
        |none=>none
        |some (.inl z4)=>
         some (z4.1,())
        |some (.inr z4)=>
         none
       |some (.inr z3)=>
        some (z3.1,())
      else
       match jW (false,s.1,()) with
       |none=>none
       |some (.inl z2)=>
        match jX (z2.1,()) with
        |none=>none
        |some (.inl z3)=>
         some (z3.1,())
        |some (.inr z3)=>
         none
       |some (.inr z2)=>
        some (z2.1,())
    else
     match jW (true,s.1,()) with
     |none=>none
     |some (.inl z2)=>
      match jX (z2.1,()) with
      |none=>none
      |some (.inl z3)=>
       some (z3.1,())
      |some (.inr z3)=>
       none
     |some (.inr z2)=>
      some (z2.1,())
  else
   bif (!decide (s.1.2.1=2)) then
    let t1:=(!decide (s.1.2.2.1=0))
    bif !t1 then
     bif (!decide (s.1.2.1=3)) then
      let t2:=(!decide ((s.1.2.2.2.1:af)=[]))
      match jW (t2,s.1,()) with
      |none=>none
      |some (.inl z3)=>
       match jX (z3.1,()) with
       |none=>none
       |some (.inl z4)=>
        some (z4.1,())
       |some (.inr z4)=>
        none
      |some (.inr z3)=>
       some (z3.1,())
     else
      match jW (false,s.1,()) with
      |none=>none
      |some (.inl z2)=>
       match jX (z2.1,()) with
       |none=>none
       |some (.inl z3)=>
        some (z3.1,())
       |some (.inr z3)=>
        none
      |some (.inr z2)=>
       some (z2.1,())
    else
     match jW (true,s.1,()) with
     |none=>none
     |some (.inl z2)=>
      match jX (z2.1,()) with
      |none=>none
      |some (.inl z3)=>
       some (z3.1,())
      |some (.inr z3)=>
       none
     |some (.inr z2)=>
      some (z2.1,())
   else
    bif (!decide (s.1.2.1=3)) then
     let t1:=(!decide ((s.1.2.2.2.1:af)=[]))
     match jW (t1,s.1,()) with
     |none=>none
     |some (.inl z2)=>
      match jX (z2.1,()) with
      |none=>none
      |some (.inl z3)=>
       some (z3.1,())
      |some (.inr z3)=>
       none
     |some (.inr z2)=>
      some (z2.1,())
    else
     match jW (false,s.1,()) with
     |none=>none
     |some (.inl aH)=>
      match jX (aH.1,()) with
      |none=>none
      |some (.inl z2)=>
       some (z2.1,())
      |some (.inr z2)=>
       none
     |some (.inr aH)=>
      some (aH.1,())
def XW (s:im×Unit):Option hf:=
 match WQ (s.1,()) with
 |none=>none
 |some aj=>
  bif !aj.1 then
   some ([],12,())
  else
   bif decide (s.1.2.1=1) then
    bif decide (List.length s.1.1+List.length ([1]:af)<=bm) then
     some ((s.1.1++([1]:af)),0,())
    else none
   else
    bif decide (s.1.2.1=2) then
     bif decide (List.length s.1.1+List.length ([2]:af)<=bm) then
      let t1:=i64.wrap (Int.tdiv s.1.2.2.1 256)
      let t2:=(IntKind.u8.wrap (Int.tmod s.1.2.2.1 256))
      let t3:af:=(rQ ([(IntKind.u8.wrap t1),t2]:List Int))
      bif (decide (List.length (s.1.1++([2]:af))+List.length t3<=bm)) then
       some (((s.1.1++([2]:af))++t3),0,())
      else none
     else none
    else
     bif decide (s.1.2.1=3) then
      bif decide (List.length s.1.1+List.length ([3]:af)<=bm) then
       bif (decide (List.length (s.1.1++([3]:af))+List.length s.1.2.2.2.1<=bm)) then
        let t1:af:=((s.1.1++([3]:af))++s.1.2.2.2.1)
        some (t1,0,())
       else none
      else none
     else
      bif decide (List.length ([6]:af)+List.length s.1.1<=bm) then
       bif (decide (List.length (([6]:af)++s.1.1)+List.length ([1]:af)<=bm)) then
        let t1:af:=((([6]:af)++s.1.1)++([1]:af))
        some (t1,0,())
       else none
      else none
def Rs (s:af×Int×Bool×af×Int×Int×af×Unit):Option (Hk⊕((Int×im×Unit)⊕im)):=
 bif s.2.2.1 then
  some (.inl (s.1,(i64.wrap (s.2.1+1)),s.2.2.2.1,s.2.2.2.2.1,s.2.2.2.2.2.1,s.2.2.2.2.2.2.1,()))
 else
  match WO (s.1,s.2.1,()) with
  |none=>none
  |some aj=>
   match XW (aj.1,()) with
   |none=>none
   |some ar=>
    bif decide (ar.2.1=0) then
     bif decide ((ar.1:af)=s.1) then
      some (.inr (.inl (0,aj.1,())))
     else
      some (.inl (s.1,(i64.wrap (s.2.1+1)),s.2.2.2.1,s.2.2.2.2.1,s.2.2.2.2.2.1,s.2.2.2.2.2.2.1,()))
    else
     some (.inl (s.1,(i64.wrap (s.2.1+1)),s.2.2.2.1,s.2.2.2.2.1,s.2.2.2.2.2.1,s.2.2.2.2.2.2.1,()))
def TE (s:Hk):Option (Hk⊕((Int×im×Unit)⊕im)):=
 let t0:=(decide (s.2.1<((List.length s.1):Int)))
 bif t0 then
  bif decide (0<=s.2.1)&&decide (s.2.1<(List.length s.1:Int)) then
   let t1:Int:=((List.getD s.1 (Int.toNat s.2.1) 0).toNat:Int)
   bif (!(decide (t1<1))) then
    bif decide (0<=s.2.1)&&decide (s.2.1<(List.length s.1:Int)) then
     let t2:Int:=((List.getD s.1 (Int.toNat s.2.1) 0).toNat:Int)
     Rs (s.1,s.2.1,(decide (t2>3)),s.2.2.1,s.2.2.2.1,s.2.2.2.2.1,s.2.2.2.2.2.1,())
    else none
   else
    Rs (s.1,s.2.1,true,s.2.2.1,s.2.2.2.1,s.2.2.2.2.1,s.2.2.2.2.2.1,())
  else none
 else
  some (.inr (.inr (s.2.2.1,s.2.2.2.1,s.2.2.2.2.1,s.2.2.2.2.2.1,())))
def TG:=bM TE
def tt (s:af×Unit):Option (im×Int×Unit):=
 match TG (s.1,0,[],0,0,[],()) with
 |none=>none
 |some (.inl z0)=>
  some (z0.2.1,z0.1,())
 |some (.inr z0)=>
  some (([],(0,(0,([],())))),12,())
def AW (s:af×Unit):Option (Bool×Unit):=
 match tt (s.1,()) with
 |none=>none
 |some aj=>
  bif decide (aj.2.1=0) then
   some ((decide (aj.1.2.1=1)),())
  else
   some (false,())
def wL (s:jJ×Int×Unit):Option tJ:=
 let t0:Int:=(if ((i64.wrap (s.1.2.1+s.2.1)):Int)<1000000000000000 then (i64.wrap (s.1.2.1+s.2.1)) else 1000000000000000)
 some ((s.1.1,(t0,())),())
def BE (s:jJ×Int×Unit):Option tJ:=
 let t0:Int:=(if (0:Int)<(i64.wrap (s.1.1-s.2.1)) then (i64.wrap (s.1.1-s.2.1)) else 0)
 some ((t0,(s.1.2.1,())),())
def Gz (s:af×af×Bool×Bool×Unit):Option (Bool×Unit):=
 bif !s.2.2.1 then
  bif !s.2.2.2.1 then
   match G5 (s.1,()) with
   |none=>none
   |some aj=>
    bif aj.1 then
     match G5 (s.2.1,()) with
     |none=>none
     |some ar=>
      some (ar.1,())
    else
     some (false,())
  else
   some (true,())
 else
  some (true,())
def Gy (s:xy):Option (Bool×Unit):=
 let t0:=(!decide ((s.1:af)=[]))
 bif t0 then
  let t1:=(!decide ((s.2.1:af)=[]))
  bif t1 then
   match BB (s.1,()) with
   |none=>none
   |some aM=>
    bif aM.1 then
     match BB (s.2.1,()) with
     |none=>none
     |some bF=>
      Gz (s.1,s.2.1,s.2.2.1,bF.1,())
    else
     Gz (s.1,s.2.1,s.2.2.1,false,())
  else
   Gz (s.1,s.2.1,s.2.2.1,false,())
 else
  Gz (s.1,s.2.1,s.2.2.1,false,())
def AM (s:ah):Option (Bool×Unit):=
 let t0:=(decide ((((List.length s.1):Int):Int)>0))
 bif t0 then
  bif decide ((0:Int)<(List.length s.1:Int)) then
   let t1:=(decide ((((List.getD s.1 0 0).toNat:Int):Int)=6))
   bif t1 then
    let t2:=(decide ((((List.length s.2.1):Int):Int)>0))
    bif t2 then
     bif decide ((0:Int)<(List.length s.2.1:Int)) then
      let t3:=(decide ((((List.getD s.2.1 0 0).toNat:Int):Int)=6))
      Gy (s.1,s.2.1,t3,())
     else none
    else
     Gy (s.1,s.2.1,false,())
   else
    Gy (s.1,s.2.1,false,())
  else none
 else
  Gy (s.1,s.2.1,false,())
def G9 (s:dY×a6×Unit):Option (dY×Unit):=
 bif decide (s.2.1.1=1) then
  match AW (s.2.1.2.1,()) with
  |none=>none
  |some aj=>
   bif aj.1 then
    match wL (s.1.1,1,()) with
    |none=>none
    |some ar=>
     some ((ar.1,(s.1.2.1,())),())
   else
    match BE (s.1.2.1,64,()) with
    |none=>none
    |some ar=>
     match wL (ar.1,((List.length s.2.1.2.2.1):Int),()) with
     |none=>none
     |some aM=>
      some ((s.1.1,(aM.1,())),())
 else
  bif decide (s.2.1.1=2) then
   match AW (s.2.1.2.1,()) with
   |none=>none
   |some aj=>
    bif aj.1 then
     match BE (s.1.1,1,()) with
     |none=>none
     |some ar=>
      some ((ar.1,(s.1.2.1,())),())
    else
     match BE (s.1.2.1,64,()) with
     |none=>none
     |some ar=>
      some ((s.1.1,(ar.1,())),())
  else
   bif decide (s.2.1.1=6) then
    some (s.1,())
   else
    bif decide (s.2.1.1=3) then
     some (((0,(s.1.1.2.1,())),((0,(s.1.2.1.2.1,())),())),())
    else
     match AM (s.2.1.2.2.2.2.1,s.2.1.2.2.2.2.2.1,()) with
     |none=>none
     |some aj=>
      bif !aj.1 then
       some (((0,(1000000000000000,())),((0,(1000000000000000,())),())),())
      else
       bif decide (s.2.1.1=5) then
        match wL ((0,(s.1.1.2.1,())),s.1.1.2.1,()) with
        |none=>none
        |some ar=>
         match wL ((0,(s.1.2.1.2.1,())),s.1.2.1.2.1,()) with
         |none=>none
         |some aM=>
          some ((ar.1,(aM.1,())),())
       else
        some (((0,(s.1.1.2.1,())),((0,(s.1.2.1.2.1,())),())),())
def G6 (s:ak×Unit):Option tJ:=
 match tt (s.1.1,()) with
 |none=>none
 |some aj=>
  bif (!decide (aj.2.1=0)) then
   some ((0,(0,())),())
  else
   bif decide (aj.1.2.1=1) then
    some ((1,(0,())),())
   else
    bif decide (aj.1.2.1=2) then
     some ((0,(((List.length s.1.2.1):Int),())),())
    else
     bif decide (aj.1.2.1=3) then
      some ((0,(((List.length s.1.2.1):Int),())),())
     else
      some ((0,(0,())),())
def AE (s:List ak×Int×Int×Int×Int×Int×Unit):Option ((List ak×Int×Int×Int×Int×Int×Unit)⊕((Int×Int×Int×Int×Unit)⊕Unit)):=
 let t0:=(decide (s.2.1<((List.length s.1):Int)))
 bif t0 then
  bif decide (0<=s.2.1)&&decide (s.2.1<(List.length s.1:Int)) then
   let t1:=(List.getD s.1 (Int.toNat s.2.1) ([],([],(0,()))))
   match G6 (t1,()) with
   |none=>none
   |some aM=>
    let t3:=i64.wrap (s.2.2.2.2.1+aM.1.1)
    let t4:=i64.wrap (s.2.2.2.2.2.1+aM.1.2.1)
    some (.inl (s.1,(i64.wrap (s.2.1+1)),s.2.2.1,s.2.2.2.1,t3,t4,()))
  else none
 else
  some (.inr (.inl (s.2.2.1,s.2.2.2.1,s.2.2.2.2.1,s.2.2.2.2.2.1,())))
def HR:=bM AE
def Cx (s:List ak×Unit):Option tJ:=
 match HR (s.1,0,0,0,0,0,()) with
 |none=>none
 |some (.inl z0)=>
  some ((z0.2.2.1,(z0.2.2.2.1,())),())
 |some (.inr z0)=>
  none
def JB (s:tJ):Option (dY×Unit):=
 some (((s.1.1,(s.1.1,())),((s.1.2.1,(s.1.2.1,())),())),())
def Bg (s:Cl):Option (Cl⊕((bq×Int×Int×Int×Int×dY×Unit)⊕Unit)):=
 let t0:=(decide (s.1<((List.length s.2.1.2.2.2.1):Int)))
 bif t0 then
  bif decide (0<=s.1)&&decide (s.1<(List.length s.2.1.2.2.2.1:Int)) then
   let t1:=(List.getD s.2.1.2.2.2.1 (Int.toNat s.1) ((0,(0,())),((0,(0,())),())))
   match J4 (s.2.2.2.2.2.2.1,t1,()) with
   |none=>none
   |some aM=>
    some (.inl ((i64.wrap (s.1+1)),s.2.1,s.2.2.1,s.2.2.2.1,s.2.2.2.2.1,s.2.2.2.2.2.1,aM.1,()))
  else none
 else
  some (.inr (.inl (s.2.1,s.2.2.1,s.2.2.2.1,s.2.2.2.2.1,s.2.2.2.2.2.1,s.2.2.2.2.2.2.1,())))
def I4:=bM Bg
def Bh (s:Cl):Option (Cl⊕((Int×Int×Int×Int×dY×Unit)⊕Unit)):=
 let t0:=(decide (s.1<((List.length s.2.1.2.2.2.2.1):Int)))
 bif t0 then
  bif decide (0<=s.1)&&decide (s.1<(List.length s.2.1.2.2.2.2.1:Int)) then
   let t1:=(List.getD s.2.1.2.2.2.2.1 (Int.toNat s.1) (0,([],([],(([],([],())),([],([],(0,()))))))))
   match G9 (s.2.2.2.2.2.2.1,t1,()) with
   |none=>none
   |some aM=>
    some (.inl ((i64.wrap (s.1+1)),s.2.1,s.2.2.1,s.2.2.2.1,s.2.2.2.2.1,s.2.2.2.2.2.1,aM.1,()))
  else none
 else
  some (.inr (.inl (s.2.2.1,s.2.2.2.1,s.2.2.2.2.1,s.2.2.2.2.2.1,s.2.2.2.2.2.2.1,())))
def I5:=bM Bh
def pN (s:bq×Unit):Option (dY×Unit):=
 let t0:=(decide ((((List.length s.1.2.2.1):Int):Int)=0))
 bif t0 then
  match Cx (s.1.1,()) with
  |none=>none
  |some ar=>
   match JB (ar.1,()) with
   |none=>none
   |some aM=>
    some (aM.1,())
 else
  match I4 (0,s.1,0,0,0,0,((0,(0,())),((0,(0,())),())),()) with
  |none=>none
  |some (.inl aH)=>
   match I5 (0,aH.1,aH.2.1,aH.2.2.1,aH.2.2.2.1,aH.2.2.2.2.1,aH.2.2.2.2.2.1,()) with
   |none=>none
   |some (.inl z2)=>
    some (z2.2.2.2.2.1,())
   |some (.inr z2)=>
    none
  |some (.inr aH)=>
   none
def GO (s:Int×List cX×Unit):Option (Bool×List cX×Unit):=
 bif decide (s.1>=0) then
  let t0:=(decide (s.1<((List.length s.2.1):Int)))
  bif t0 then
   bif decide (0<=s.1)&&decide (s.1<(List.length s.2.1:Int)) then
    let t1:=(List.getD s.2.1 (Int.toNat s.1) (false,(false,(0,(([],([],([],([],([],()))))),())))))
    some (t1.1,s.2.1,())
   else none
  else
   some (false,s.2.1,())
 else
  some (false,s.2.1,())
def AX (s:List Int×List cX×List cX×Unit):Option ((List Int×List cX×List cX×Unit)⊕((List cX×List cX×Unit)⊕Unit)):=
 let t0:=(decide ((((List.length s.1):Int):Int)>0))
 bif t0 then
  bif decide ((0:Int)<(List.length s.1:Int)) then
   bif (decide ((1:Int)<=(List.length s.1:Int))&&decide (((List.length s.1:Int):Int)<=(List.length s.1:Int))) then
    let t1:=(List.drop (Int.toNat 1) (List.take (Int.toNat (List.length s.1:Int)) s.1))
    match GO ((List.getD s.1 0 0),s.2.2.1,()) with
    |none=>none
    |some aM=>
     bif !aM.1 then
      some (.inl (t1,s.2.1,aM.2.1,()))
     else
      bif (decide (0<=(List.getD s.1 0 0))&&decide (((List.getD s.1 0 0):Int)<(List.length aM.2.1:Int))) then
       let t3:=(List.getD aM.2.1 (Int.toNat (List.getD s.1 0 0)) (false,(false,(0,(([],([],([],([],([],()))))),())))))
       let t4:=i64.wrap (t3.2.2.1-1)
       bif (decide (0<=(List.getD s.1 0 0))&&decide (((List.getD s.1 0 0):Int)<(List.length aM.2.1:Int))) then
        let t5:=(List.set aM.2.1 (Int.toNat (List.getD s.1 0 0)) ((List.getD aM.2.1 (Int.toNat (List.getD s.1 0 0)) (false,(false,(0,(([],([],([],([],([],()))))),()))))).1,((List.getD aM.2.1 (Int.toNat (List.getD s.1 0 0)) (false,(false,(0,(([],([],([],([],([],()))))),()))))).2.1,(t4,(List.getD aM.2.1 (Int.toNat (List.getD s.1 0 0)) (false,(false,(0,(([],([],([],([],([],()))))),()))))).2.2.2))))
        bif (decide (0<=(List.getD s.1 0 0))&&decide (((List.getD s.1 0 0):Int)<(List.length t5:Int))) then
         let t6:=(List.getD t5 (Int.toNat (List.getD s.1 0 0)) (false,(false,(0,(([],([],([],([],([],()))))),())))))
         bif decide (t6.2.2.1=0) then
          bif (decide ((List.length ([]:List Int)+List.length t1)*8<=bm)) then
           bif (decide (0<=(List.getD s.1 0 0))&&decide (((List.getD s.1 0 0):Int)<(List.length t5:Int))) then
            let t7:=(List.getD t5 (Int.toNat (List.getD s.1 0 0)) (false,(false,(0,(([],([],([],([],([],()))))),())))))
            bif (decide ((List.length ([]++t1)+List.length t7.2.2.2.1.2.2.1)*8<=bm)) then
             let t8:List Int:=(([]++t1)++t7.2.2.2.1.2.2.1)
             bif (decide (0<=(List.getD s.1 0 0))&&decide (((List.getD s.1 0 0):Int)<(List.length t5:Int))) then
              let t9:=(List.set t5 (Int.toNat (List.getD s.1 0 0)) (false,(false,(0,(([],([],([],([],([],()))))),())))))
              some (.inl (t8,s.2.1,t9,()))
             else none
            else none
           else none
          else none
         else
          some (.inl (t1,s.2.1,t5,()))
        else none
       else none
      else none
   else none
  else none
 else
  some (.inr (.inl (s.2.1,s.2.2.1,())))
def Ik:=bM AX
def w1 (s:er):Option er:=
 match wl (s.1,s.2.1,()) with
 |none=>none
 |some aj=>
  bif !aj.1 then
   some (s.1,110,())
  else
   match Bl (s.1,()) with
   |none=>none
   |some ar=>
    match Ik (([s.2.1]:List Int),[],ar.1,()) with
    |none=>none
    |some (.inl z2)=>
     some ((z2.2.1,()),0,())
    |some (.inr z2)=>
     none
def xa (s:er):Option (Bool×Unit):=
 bif decide (s.2.1>=0) then
  let t0:=(decide (s.2.1<((List.length s.1.1):Int)))
  bif t0 then
   bif decide (0<=s.2.1)&&decide (s.2.1<(List.length s.1.1:Int)) then
    let t1:=(List.getD s.1.1 (Int.toNat s.2.1) (false,(false,(0,(([],([],([],([],([],()))))),())))))
    some (t1.1,())
   else none
  else
   some (false,())
 else
  some (false,())
def j9 (s:er):Option (bq×Int×Unit):=
 match xa (s.1,s.2.1,()) with
 |none=>none
 |some aj=>
  bif !aj.1 then
   some (([],([],([],([],([],()))))),110,())
  else
   bif decide (0<=s.2.1)&&decide (s.2.1<(List.length s.1.1:Int)) then
    let t1:=(List.getD s.1.1 (Int.toNat s.2.1) (false,(false,(0,(([],([],([],([],([],()))))),())))))
    bif t1.2.1 then
     some (([],([],([],([],([],()))))),112,())
    else
     bif decide (0<=s.2.1)&&decide (s.2.1<(List.length s.1.1:Int)) then
      let t2:=(List.getD s.1.1 (Int.toNat s.2.1) (false,(false,(0,(([],([],([],([],([],()))))),())))))
      some (t2.2.2.2.1,0,())
     else none
   else none
def Al (s:af×Unit):Option (Bool×Unit):=
 some ((!decide ((s.1:af)=s.1)),())
def Fs (s:ah):Option (Int×Unit):=
 match Al (s.1,()) with
 |none=>none
 |some aj=>
  match Al (s.2.1,()) with
  |none=>none
  |some ar=>
   bif aj.1 then
    bif ar.1 then
     some (0,())
    else
     some ((-1:Int),())
   else
    bif ar.1 then
     some (1,())
    else
     bif (Op.bytesLess s.1 s.2.1) then
      some ((-1:Int),())
     else
      let t2:=(!(Op.bytesLess s.1 s.2.1||decide ((s.1:af)=s.2.1)))
      bif t2 then
       some (1,())
      else
       some (0,())
def wh (s:ah):Option (Int×Unit):=
 bif decide ((s.1:af)=s.2.1) then
  some (0,())
 else
  let t0:=decide ((s.1:af)=[])
  bif t0 then
   some (1,())
  else
   let t1:=decide ((s.2.1:af)=[])
   bif t1 then
    some ((-1:Int),())
   else
    match Fs (s.1,s.2.1,()) with
    |none=>none
    |some aM=>
     some (aM.1,())
def vf (s:(List af)×af×Int×Unit):Option (((List af)×af×Int×Unit)⊕((af×Unit)⊕Unit)):=
 let t0:=(decide (s.2.2.1<((List.length s.1):Int)))
 bif t0 then
  bif decide (0<=s.2.2.1)&&decide (s.2.2.1<(List.length s.1:Int)) then
   let t1:=(List.getD s.1 (Int.toNat s.2.2.1) [])
   match wh (t1,s.2.1,()) with
   |none=>none
   |some aM=>
    bif decide (aM.1<0) then
     bif decide (0<=s.2.2.1)&&decide (s.2.2.1<(List.length s.1:Int)) then
      let t3:=(List.getD s.1 (Int.toNat s.2.2.1) [])
      some (.inl (s.1,t3,(i64.wrap (s.2.2.1+1)),()))
     else none
    else
     some (.inl (s.1,s.2.1,(i64.wrap (s.2.2.1+1)),()))
  else none
 else
  some (.inr (.inl (s.2.1,())))
def Ms:=bM vf
def N1 (s:(List af)×Unit):Option (af×Unit):=
 let t0:=(decide ((((List.length s.1):Int):Int)<1))
 bif t0 then
  none
 else
  bif decide ((0:Int)<(List.length s.1:Int)) then
   match Ms (s.1,(List.getD s.1 0 []),1,()) with
   |none=>none
   |some (.inl aH)=>
    some (aH.1,())
   |some (.inr aH)=>
    none
  else none
def CU (s:(List af)×Unit):Option (af×Unit):=
 match N1 (s.1,()) with
 |none=>none
 |some aj=>
  some (aj.1,())
def j0 (s:ah×Unit):Option (Bool×Unit):=
 let t0:=(!decide ((s.1.2.1:af)=[]))
 bif t0 then
  let t1:=(Op.bytesLess s.1.2.1 s.1.1||decide ((s.1.2.1:af)=s.1.1))
  some (t1,())
 else
  some (false,())
def rJ (s:r2):Option (ah×Unit):=
 let t0:af:=(bif !(Op.bytesLess s.1.1 s.2.1.1) then s.1.1 else s.2.1.1)
 match CU (([s.1.2.1,s.2.1.2.1]:List af),()) with
 |none=>none
 |some ar=>
  match j0 ((t0,(ar.1,())),()) with
  |none=>none
  |some aM=>
   bif aM.1 then
    some ((([97]:af),(([97]:af),())),())
   else
    some ((t0,(ar.1,())),())
def U7 (s:Qx):Option (Qx⊕((af×ah×List ah×Unit)⊕Unit)):=
 bif decide (s.2.2.2.1<s.2.2.1) then
  bif decide (0<=s.2.2.2.1)&&decide (s.2.2.2.1<(List.length s.2.1:Int)) then
   let t0:=(List.getD s.2.1 (Int.toNat s.2.2.2.1) [])
   match rJ (s.2.2.2.2.1,(s.1,(t0,())),()) with
   |none=>none
   |some ar=>
    bif (decide ((List.length s.2.2.2.2.2.1+List.length ([ar.1]:List ah))*32<=bm)) then
     let t2:List ah:=(s.2.2.2.2.2.1++([ar.1]:List ah))
     let t3:=i64.wrap (s.2.2.2.1+1)
     some (.inl (t0,s.2.1,s.2.2.1,t3,s.2.2.2.2.1,t2,()))
    else none
  else none
 else
  some (.inr (.inl (s.1,s.2.2.2.2.1,s.2.2.2.2.2.1,())))
def U9:=bM U7
def pO (s:ah×(List af)×Unit):Option (List ah×Unit):=
 match U9 ([],s.2.1,((List.length s.2.1):Int),0,s.1,[],()) with
 |none=>none
 |some (.inl z0)=>
  match rJ (z0.2.1,(z0.1,([],())),()) with
  |none=>none
  |some ar=>
   bif (decide ((List.length z0.2.2.1+List.length ([ar.1]:List ah))*32<=bm)) then
    let t2:List ah:=(z0.2.2.1++([ar.1]:List ah))
    some (t2,())
   else none
 |some (.inr z0)=>
  none
def BL (s:xz):Option (List ah×Unit):=
 let t0:=(decide ((((List.length s.1.2.2.1):Int):Int)=0))
 bif t0 then
  some ([],())
 else
  match pO (s.2.1,s.1.2.1,()) with
  |none=>none
  |some ar=>
   some (ar.1,())
def oo (s:af×Unit):Option (ah×Unit):=
 bif decide (List.length s.1+List.length ([0]:af)<=bm) then
  some ((s.1,((s.1++([0]:af)),())),())
 else none
def PZ (s:a6×Unit):Option (List ah×Unit):=
 match oo (s.1.2.1,()) with
 |none=>none
 |some aj=>
  some (([aj.1]:List ah),())
def PT (s:a6×Unit):Option (List ah×Unit):=
 match oo (s.1.2.1,()) with
 |none=>none
 |some aj=>
  some (([aj.1]:List ah),())
def Ps (s:a6×Unit):Option (List ah×Unit):=
 some (([s.1.2.2.2.1]:List ah),())
def Ru (s:af×Bool×af×af×List Int×Unit):Option (xB⊕(xB⊕Unit)):=
 bif s.2.1 then
  let t0:=(i64.wrap (((List.length s.2.2.2.2.1):Int)-1))
  bif decide ((0:Int)<=t0)&&decide (t0<=(List.length s.2.2.2.2.1:Int)) then
   some (.inl (s.1,s.2.2.1,s.2.2.2.1,(List.take (Int.toNat t0) s.2.2.2.2.1),()))
  else none
 else
  some (.inr (.inl (s.1,s.2.2.1,s.2.2.2.1,s.2.2.2.2.1,())))
def Ua (s:xB):Option (xB⊕(xB⊕Unit)):=
 let t0:=(decide ((((List.length s.2.2.2.1):Int):Int)>0))
 bif t0 then
  let t1:=(i64.wrap (((List.length s.2.2.2.1):Int)-1))
  bif decide (0<=t1)&&decide (t1<(List.length s.2.2.2.1:Int)) then
   let t2:=(List.getD s.2.2.2.1 (Int.toNat t1) 0)
   Ru (s.1,(decide (t2=255)),s.2.1,s.2.2.1,s.2.2.2.1,())
  else none
 else
  Ru (s.1,false,s.2.1,s.2.2.1,s.2.2.2.1,())
def Uc:=bM Ua
def kN (s:af×Unit):Option (ah×Unit):=
 bif decide (List.length s.1<=bm) then
  match Uc (s.1,[],[],(ix s.1),()) with
  |none=>none
  |some (.inl z0)=>
   let t1:=(decide ((((List.length z0.2.2.2.1):Int):Int)>0))
   bif t1 then
    let t2:=(i64.wrap (((List.length z0.2.2.2.1):Int)-1))
    bif decide (0<=t2)&&decide (t2<(List.length z0.2.2.2.1:Int)) then
     let t3:=(List.getD z0.2.2.2.1 (Int.toNat t2) 0)
     bif decide (0<=t2)&&decide (t2<(List.length z0.2.2.2.1:Int)) then
      let t4:=(List.set z0.2.2.2.1 (Int.toNat t2) (IntKind.u8.wrap (t3+1)))
      some ((z0.1,((rQ t4),())),())
     else none
    else none
   else
    some ((z0.1,((rQ z0.2.2.2.1),())),())
  |some (.inr z0)=>
   none
 else none
def Pt (s:a6×Unit):Option (List ah×Unit):=
 match kN (s.1.2.2.2.2.1,()) with
 |none=>none
 |some aj=>
  match kN (s.1.2.2.2.2.2.1,()) with
  |none=>none
  |some ar=>
   some (([aj.1,ar.1]:List ah),())
def Pb (s:a6×Unit):Option (List ah×Unit):=
 match kN (s.1.2.2.2.2.2.1,()) with
 |none=>none
 |some aj=>
  some (([aj.1]:List ah),())
def Pc (s:a6×Unit):Option (List ah×Unit):=
 some (([s.1.2.2.2.1]:List ah),())
def oc (s:a6×Unit):Option (List ah×Unit):=
 bif decide (s.1.1=1) then
  match PZ (s.1,()) with
  |none=>none
  |some aj=>
   some (aj.1,())
 else
  bif decide (s.1.1=2) then
   match PT (s.1,()) with
   |none=>none
   |some aj=>
    some (aj.1,())
  else
   bif decide (s.1.1=3) then
    match Ps (s.1,()) with
    |none=>none
    |some aj=>
     some (aj.1,())
   else
    bif decide (s.1.1=4) then
     match Pt (s.1,()) with
     |none=>none
     |some aj=>
      some (aj.1,())
    else
     bif decide (s.1.1=5) then
      match Pb (s.1,()) with
      |none=>none
      |some aj=>
       some (aj.1,())
     else
      bif decide (s.1.1=6) then
       match Pc (s.1,()) with
       |none=>none
       |some aj=>
        some (aj.1,())
      else
       some ([],())
def rK (s:bq×Unit):Option (Bool×Unit):=
 let t0:=(decide ((((List.length s.1.2.2.1):Int):Int)=0))
 some (t0,())
def Ob (s:ah):Option (Int×Unit):=some ((fun a b=>Lib.compareBytes a b) s.1 s.2.1,())
def PB (s:ah):Option (Int×Unit):=
 match Ob (s.1,s.2.1,()) with
 |none=>none
 |some aj=>
  some (aj.1,())
def A4 (s:ak×af×Unit):Option (Int×Unit):=
 match PB (s.1.1,s.2.1,()) with
 |none=>none
 |some aj=>
  some (aj.1,())
def D8 (s:List ak×af×Int×Int×Int×Unit):Option ((List ak×af×Int×Int×Int×Unit)⊕((List ak×af×Int×Int×Unit)⊕Unit)):=
 let t0:=decide (s.2.2.2.1<s.2.2.2.2.1)
 bif t0 then
  let t1:=i64.wrap (s.2.2.2.1+s.2.2.2.2.1)
  let t2:Int:=(Int.fdiv (IntKind.u64.wrap t1) (2^(min (Int.toNat 1) IntKind.u64.bits)))
  bif (decide (0<=(i64.wrap t2))&&decide (((i64.wrap t2):Int)<(List.length s.1:Int))) then
   let t3:=(List.getD s.1 (Int.toNat (i64.wrap t2)) ([],([],(0,()))))
   match A4 (t3,s.2.1,()) with
   |none=>none
   |some cT=>
    bif decide (cT.1<0) then
     let t5:=i64.wrap ((i64.wrap t2)+1)
     some (.inl (s.1,s.2.1,s.2.2.1,t5,s.2.2.2.2.1,()))
    else
     some (.inl (s.1,s.2.1,s.2.2.1,s.2.2.2.1,(i64.wrap t2),()))
  else none
 else
  some (.inr (.inl (s.1,s.2.1,s.2.2.1,s.2.2.2.1,())))
def LL:=bM D8
def D9 (s:Ck):Option Ch:=
 match LL (s.1,s.2.1,((List.length s.1):Int),0,((List.length s.1):Int),()) with
 |none=>none
 |some (.inl z0)=>
  bif decide (z0.2.2.2.1<z0.2.2.1) then
   bif decide (0<=z0.2.2.2.1)&&decide (z0.2.2.2.1<(List.length z0.1:Int)) then
    let t1:=(List.getD z0.1 (Int.toNat z0.2.2.2.1) ([],([],(0,()))))
    match A4 (t1,z0.2.1,()) with
    |none=>none
    |some aM=>
     some (z0.2.2.2.1,(decide (aM.1=0)),())
   else none
  else
   some (z0.2.2.2.1,false,())
 |some (.inr z0)=>
  none
def tD (s:Ck):Option Ch:=
 match D9 (s.1,s.2.1,()) with
 |none=>none
 |some aj=>
  some (aj.1,aj.2.1,())
def CV (s:Ck):Option (ak×Bool×Unit):=
 match tD (s.1,s.2.1,()) with
 |none=>none
 |some aj=>
  bif aj.2.1 then
   bif decide (0<=aj.1)&&decide (aj.1<(List.length s.1:Int)) then
    let t1:=(List.getD s.1 (Int.toNat aj.1) ([],([],(0,()))))
    some (t1,true,())
   else none
  else
   some (([],([],(0,()))),false,())
def zd (s:List a6×Unit):Option (List a6×Unit):=
 some (s.1,())
def pR (s:HC):Option (Bool×Unit):=
 bif (!(Op.bytesLess s.2.1 s.1.1)) then
  let t0:=decide ((s.1.2.1:af)=[])
  bif !t0 then
   some ((Op.bytesLess s.2.1 s.1.2.1),())
  else
   some (true,())
 else
  some (false,())
def wY (s:Int×Bool×Bool×af×af×Int×af×Bool×Int×Unit):Option (Bool×Bool×af×af×Int×af×Bool×Int×Unit):=
 bif !s.2.2.2.2.2.2.2.1 then
  some (s.2.1,s.2.2.1,s.2.2.2.1,s.2.2.2.2.1,s.2.2.2.2.2.1,s.2.2.2.2.2.2.1,true,s.1,())
 else
  some (s.2.1,s.2.2.1,s.2.2.2.1,s.2.2.2.2.1,s.2.2.2.2.2.1,s.2.2.2.2.2.2.1,s.2.2.2.2.2.2.2.1,s.2.2.2.2.2.2.2.2.1,())
def A7 (s:uk):Option (Bool×Bool×Bool×af×af×Int×af×Bool×Int×Unit):=
 match pR (s.1.2.2.2.1,s.2.2.2.2.2.2.1,()) with
 |none=>none
 |some aj=>
  bif aj.1 then
   match wY (s.1.2.2.2.2.2.2.1,s.2.1,s.2.2.1,s.2.2.2.1,s.2.2.2.2.1,s.2.2.2.2.2.1,s.2.2.2.2.2.2.1,s.2.2.2.2.2.2.2.1,s.2.2.2.2.2.2.2.2.1,()) with
   |none=>none
   |some ar=>
    some (false,ar.1,ar.2.1,ar.2.2.1,ar.2.2.2.1,ar.2.2.2.2.1,ar.2.2.2.2.2.1,ar.2.2.2.2.2.2.1,ar.2.2.2.2.2.2.2.1,())
  else
   some (false,s.2.1,s.2.2.1,s.2.2.2.1,s.2.2.2.2.1,s.2.2.2.2.2.1,s.2.2.2.2.2.2.1,s.2.2.2.2.2.2.2.1,s.2.2.2.2.2.2.2.2.1,())
def oZ (s:ah):Option (Bool×Unit):=
 let t0:=(decide ((((List.length s.1):Int):Int)>=((List.length s.2.1):Int)))
 bif t0 then
  bif (decide ((0:Int)<=((List.length s.2.1):Int))&&decide ((((List.length s.2.1):Int):Int)<=(List.length s.1:Int))) then
   let t1:=(List.drop 0 (List.take (Int.toNat ((List.length s.2.1):Int)) s.1))
   some ((decide ((t1:af)=s.2.1)),())
  else none
 else
  some (false,())
def Oc (s:ah):Option um:=
 match oZ (s.1,s.2.1,()) with
 |none=>none
 |some aj=>
  bif !aj.1 then
   some (s.1,false,())
  else
   bif (decide (0<=((List.length s.2.1):Int))&&decide ((((List.length s.2.1):Int):Int)<=(List.length s.1:Int))&&decide (((List.length s.1:Int):Int)<=(List.length s.1:Int))) then
    let t1:=(List.drop (Int.toNat ((List.length s.2.1):Int)) (List.take (Int.toNat (List.length s.1:Int)) s.1))
    some (t1,true,())
   else none
def F2 (s:ah):Option um:=
 match Oc (s.1,s.2.1,()) with
 |none=>none
 |some aj=>
  some (aj.1,aj.2.1,())
def rq (s:af×af×af×Unit):Option um:=
 match F2 (s.1,s.2.1,()) with
 |none=>none
 |some aj=>
  bif !aj.2.1 then
   some ([],false,())
  else
   bif decide (List.length s.2.2.1+List.length aj.1<=bm) then
    some ((s.2.2.1++aj.1),true,())
   else none
def rv (s:uk):Option (Bool×Bool×Bool×af×af×Int×af×Bool×Int×Unit):=
 match rq (s.2.2.2.2.2.2.1,s.1.2.2.2.2.2.1,s.1.2.2.2.2.1,()) with
 |none=>none
 |some aj=>
  bif aj.2.1 then
   some (false,s.2.1,s.2.2.1,s.2.2.2.1,s.2.2.2.2.1,s.2.2.2.2.2.1,aj.1,s.2.2.2.2.2.2.2.1,s.2.2.2.2.2.2.2.2.1,())
  else
   some (false,s.2.1,s.2.2.1,s.2.2.2.1,s.2.2.2.2.1,s.2.2.2.2.2.1,s.2.2.2.2.2.2.1,s.2.2.2.2.2.2.2.1,s.2.2.2.2.2.2.2.2.1,())
def sY (s:ah):Option (Bool×Unit):=
 match oZ (s.1,s.2.1,()) with
 |none=>none
 |some aj=>
  some (aj.1,())
def A6 (s:uk):Option (Bool×Bool×Bool×af×af×Int×af×Bool×Int×Unit):=
 match sY (s.2.2.2.2.2.2.1,s.1.2.2.2.2.1,()) with
 |none=>none
 |some aj=>
  bif !aj.1 then
   match rv (s.1,s.2.1,s.2.2.1,s.2.2.2.1,s.2.2.2.2.1,s.2.2.2.2.2.1,s.2.2.2.2.2.2.1,s.2.2.2.2.2.2.2.1,s.2.2.2.2.2.2.2.2.1,()) with
   |none=>none
   |some ar=>
    some (ar.1,ar.2.1,ar.2.2.1,ar.2.2.2.1,ar.2.2.2.2.1,ar.2.2.2.2.2.1,ar.2.2.2.2.2.2.1,ar.2.2.2.2.2.2.2.1,ar.2.2.2.2.2.2.2.2.1,())
  else
   some (true,s.2.1,s.2.2.1,s.2.2.2.1,s.2.2.2.2.1,s.2.2.2.2.2.1,s.2.2.2.2.2.2.1,s.2.2.2.2.2.2.2.1,s.2.2.2.2.2.2.2.2.1,())
def A5 (s:uk):Option (Bool×Bool×Bool×af×af×Int×af×Bool×Int×Unit):=
 match pR (s.1.2.2.2.1,s.2.2.2.2.2.2.1,()) with
 |none=>none
 |some aj=>
  some (aj.1,s.2.1,s.2.2.1,s.2.2.2.1,s.2.2.2.2.1,s.2.2.2.2.2.1,s.2.2.2.2.2.2.1,s.2.2.2.2.2.2.2.1,s.2.2.2.2.2.2.2.2.1,())
def wI (s:uk):Option (Bool×Bool×Bool×af×af×Int×af×Bool×Int×Unit):=
 let t0:=decide ((s.1.2.1:af)=s.2.2.2.2.2.2.1)
 some (t0,s.2.1,s.2.2.1,s.2.2.2.1,s.2.2.2.2.1,s.2.2.2.2.2.1,s.2.2.2.2.2.2.1,s.2.2.2.2.2.2.2.1,s.2.2.2.2.2.2.2.2.1,())
def wH (s:uk):Option (Bool×Bool×Bool×af×af×Int×af×Bool×Int×Unit):=
 let t0:=(!decide ((s.1.2.1:af)=s.2.2.2.2.2.2.1))
 bif t0 then
  some (false,s.2.1,s.2.2.1,s.2.2.2.1,s.2.2.2.2.1,s.2.2.2.2.2.1,s.2.2.2.2.2.2.1,s.2.2.2.2.2.2.2.1,s.2.2.2.2.2.2.2.2.1,())
 else
  match wY (s.1.2.2.2.2.2.2.1,s.2.1,s.2.2.1,s.2.2.2.1,s.2.2.2.2.1,s.2.2.2.2.2.1,s.2.2.2.2.2.2.1,s.2.2.2.2.2.2.2.1,s.2.2.2.2.2.2.2.2.1,()) with
  |none=>none
  |some ar=>
   some (true,ar.1,true,ar.2.2.1,s.1.2.2.1,ar.2.2.2.2.2.2.2.1,ar.2.2.2.2.2.1,ar.2.2.2.2.2.2.1,ar.2.2.2.2.2.2.2.1,())
def nR (s:Hl):Option Hl:=
 bif s.1 then
  bif decide (s.2.1= -1) then
   some (true,0,s.2.2.1,s.2.2.2.1,s.2.2.2.2.1,s.2.2.2.2.2.1,s.2.2.2.2.2.2.1,s.2.2.2.2.2.2.2.1,s.2.2.2.2.2.2.2.2.1,s.2.2.2.2.2.2.2.2.2.1,s.2.2.2.2.2.2.2.2.2.2.1,s.2.2.2.2.2.2.2.2.2.2.2.1,s.2.2.2.2.2.2.2.2.2.2.2.2.1,s.2.2.2.2.2.2.2.2.2.2.2.2.2.1,s.2.2.2.2.2.2.2.2.2.2.2.2.2.2.1,s.2.2.2.2.2.2.2.2.2.2.2.2.2.2.2.1,s.2.2.2.2.2.2.2.2.2.2.2.2.2.2.2.2.1,s.2.2.2.2.2.2.2.2.2.2.2.2.2.2.2.2.2.1,())
  else none
 else
  bif s.2.2.2.1 then
   bif decide (s.2.1= -1) then
    some (false,1,s.2.2.1,s.2.2.2.1,s.2.2.2.2.1,s.2.2.2.2.2.1,s.2.2.2.2.2.2.1,s.2.2.2.2.2.2.2.1,s.2.2.2.2.2.2.2.2.1,s.2.2.2.2.2.2.2.2.2.1,true,true,s.2.2.2.2.1,s.2.2.2.2.2.1,s.2.2.2.2.2.2.1,[],false,0,())
   else none
  else
   bif decide (s.2.1= -1) then
    some (false,1,s.2.2.1,s.2.2.2.1,s.2.2.2.2.1,s.2.2.2.2.2.1,s.2.2.2.2.2.2.1,s.2.2.2.2.2.2.2.1,s.2.2.2.2.2.2.2.2.1,s.2.2.2.2.2.2.2.2.2.1,true,false,[],[],0,[],false,0,())
   else none
def m6 (s:Int×a6×Int×Bool×Bool×af×af×Int×af×Bool×Int×Bool×Bool×af×af×Int×af×Bool×Int×Unit):Option Hl:=
 bif decide (s.2.2.1=0) then
  bif decide (s.2.2.1=0) then
   bif decide (0<=s.2.1.1)&&decide (s.2.1.1<7) then
    bif (Nat.beq (Int.toNat s.2.1.1) 6) then
     match A7 (s.2.1,s.2.2.2.1,s.2.2.2.2.1,s.2.2.2.2.2.1,s.2.2.2.2.2.2.1,s.2.2.2.2.2.2.2.1,s.2.2.2.2.2.2.2.2.1,s.2.2.2.2.2.2.2.2.2.1,s.2.2.2.2.2.2.2.2.2.2.1,()) with
     |none=>none
     |some aj=>
      nR ((!aj.1),(-1:Int),aj.2.1,aj.2.2.1,aj.2.2.2.1,aj.2.2.2.2.1,aj.2.2.2.2.2.1,aj.2.2.2.2.2.2.1,aj.2.2.2.2.2.2.2.1,aj.2.2.2.2.2.2.2.2.1,s.2.2.2.2.2.2.2.2.2.2.2.1,s.2.2.2.2.2.2.2.2.2.2.2.2.1,s.2.2.2.2.2.2.2.2.2.2.2.2.2.1,s.2.2.2.2.2.2.2.2.2.2.2.2.2.2.1,s.2.2.2.2.2.2.2.2.2.2.2.2.2.2.2.1,s.2.2.2.2.2.2.2.2.2.2.2.2.2.2.2.2.1,s.2.2.2.2.2.2.2.2.2.2.2.2.2.2.2.2.2.1,s.2.2.2.2.2.2.2.2.2.2.2.2.2.2.2.2.2.2.1,())
    else
     bif (Nat.beq (Int.toNat s.2.1.1) 5) then
      match rv (s.2.1,s.2.2.2.1,s.2.2.2.2.1,s.2.2.2.2.2.1,s.2.2.2.2.2.2.1,s.2.2.2.2.2.2.2.1,s.2.2.2.2.2.2.2.2.1,s.2.2.2.2.2.2.2.2.2.1,s.2.2.2.2.2.2.2.2.2.2.1,()) with
      |none=>none
      |some aj=>
       nR ((!aj.1),(-1:Int),aj.2.1,aj.2.2.1,aj.2.2.2.1,aj.2.2.2.2.1,aj.2.2.2.2.2.1,aj.2.2.2.2.2.2.1,aj.2.2.2.2.2.2.2.1,aj.2.2.2.2.2.2.2.2.1,s.2.2.2.2.2.2.2.2.2.2.2.1,s.2.2.2.2.2.2.2.2.2.2.2.2.1,s.2.2.2.2.2.2.2.2.2.2.2.2.2.1,s.2.2.2.2.2.2.2.2.2.2.2.2.2.2.1,s.2.2.2.2.2.2.2.2.2.2.2.2.2.2.2.1,s.2.2.2.2.2.2.2.2.2.2.2.2.2.2.2.2.1,s.2.2.2.2.2.2.2.2.2.2.2.2.2.2.2.2.2.1,s.2.2.2.2.2.2.2.2.2.2.2.2.2.2.2.2.2.2.1,())
     else
      bif (Nat.beq (Int.toNat s.2.1.1) 4) then
       match A6 (s.2.1,s.2.2.2.1,s.2.2.2.2.1,s.2.2.2.2.2.1,s.2.2.2.2.2.2.1,s.2.2.2.2.2.2.2.1,s.2.2.2.2.2.2.2.2.1,s.2.2.2.2.2.2.2.2.2.1,s.2.2.2.2.2.2.2.2.2.2.1,()) with
       |none=>none
       |some aj=>
        nR ((!aj.1),(-1:Int),aj.2.1,aj.2.2.1,aj.2.2.2.1,aj.2.2.2.2.1,aj.2.2.2.2.2.1,aj.2.2.2.2.2.2.1,aj.2.2.2.2.2.2.2.1,aj.2.2.2.2.2.2.2.2.1,s.2.2.2.2.2.2.2.2.2.2.2.1,s.2.2.2.2.2.2.2.2.2.2.2.2.1,s.2.2.2.2.2.2.2.2.2.2.2.2.2.1,s.2.2.2.2.2.2.2.2.2.2.2.2.2.2.1,s.2.2.2.2.2.2.2.2.2.2.2.2.2.2.2.1,s.2.2.2.2.2.2.2.2.2.2.2.2.2.2.2.2.1,s.2.2.2.2.2.2.2.2.2.2.2.2.2.2.2.2.2.1,s.2.2.2.2.2.2.2.2.2.2.2.2.2.2.2.2.2.2.1,())
      else
       bif (Nat.beq (Int.toNat s.2.1.1) 3) then
        match A5 (s.2.1,s.2.2.2.1,s.2.2.2.2.1,s.2.2.2.2.2.1,s.2.2.2.2.2.2.1,s.2.2.2.2.2.2.2.1,s.2.2.2.2.2.2.2.2.1,s.2.2.2.2.2.2.2.2.2.1,s.2.2.2.2.2.2.2.2.2.2.1,()) with
        |none=>none
        |some aj=>
         nR ((!aj.1),(-1:Int),aj.2.1,aj.2.2.1,aj.2.2.2.1,aj.2.2.2.2.1,aj.2.2.2.2.2.1,aj.2.2.2.2.2.2.1,aj.2.2.2.2.2.2.2.1,aj.2.2.2.2.2.2.2.2.1,s.2.2.2.2.2.2.2.2.2.2.2.1,s.2.2.2.2.2.2.2.2.2.2.2.2.1,s.2.2.2.2.2.2.2.2.2.2.2.2.2.1,s.2.2.2.2.2.2.2.2.2.2.2.2.2.2.1,s.2.2.2.2.2.2.2.2.2.2.2.2.2.2.2.1,s.2.2.2.2.2.2.2.2.2.2.2.2.2.2.2.2.1,s.2.2.2.2.2.2.2.2.2.2.2.2.2.2.2.2.2.1,s.2.2.2.2.2.2.2.2.2.2.2.2.2.2.2.2.2.2.1,())
       else
        bif (Nat.beq (Int.toNat s.2.1.1) 2) then
         match wI (s.2.1,s.2.2.2.1,s.2.2.2.2.1,s.2.2.2.2.2.1,s.2.2.2.2.2.2.1,s.2.2.2.2.2.2.2.1,s.2.2.2.2.2.2.2.2.1,s.2.2.2.2.2.2.2.2.2.1,s.2.2.2.2.2.2.2.2.2.2.1,()) with
         |none=>none
         |some aj=>
          nR ((!aj.1),(-1:Int),aj.2.1,aj.2.2.1,aj.2.2.2.1,aj.2.2.2.2.1,aj.2.2.2.2.2.1,aj.2.2.2.2.2.2.1,aj.2.2.2.2.2.2.2.1,aj.2.2.2.2.2.2.2.2.1,s.2.2.2.2.2.2.2.2.2.2.2.1,s.2.2.2.2.2.2.2.2.2.2.2.2.1,s.2.2.2.2.2.2.2.2.2.2.2.2.2.1,s.2.2.2.2.2.2.2.2.2.2.2.2.2.2.1,s.2.2.2.2.2.2.2.2.2.2.2.2.2.2.2.1,s.2.2.2.2.2.2.2.2.2.2.2.2.2.2.2.2.1,s.2.2.2.2.2.2.2.2.2.2.2.2.2.2.2.2.2.1,s.2.2.2.2.2.2.2.2.2.2.2.2.2.2.2.2.2.2.1,())
        else
         bif (Nat.beq (Int.toNat s.2.1.1) 1) then
          match wH (s.2.1,s.2.2.2.1,s.2.2.2.2.1,s.2.2.2.2.2.1,s.2.2.2.2.2.2.1,s.2.2.2.2.2.2.2.1,s.2.2.2.2.2.2.2.2.1,s.2.2.2.2.2.2.2.2.2.1,s.2.2.2.2.2.2.2.2.2.2.1,()) with
          |none=>none
          |some aj=>
           nR ((!aj.1),(-1:Int),aj.2.1,aj.2.2.1,aj.2.2.2.1,aj.2.2.2.2.1,aj.2.2.2.2.2.1,aj.2.2.2.2.2.2.1,aj.2.2.2.2.2.2.2.1,aj.2.2.2.2.2.2.2.2.1,s.2.2.2.2.2.2.2.2.2.2.2.1,s.2.2.2.2.2.2.2.2.2.2.2.2.1,s.2.2.2.2.2.2.2.2.2.2.2.2.2.1,s.2.2.2.2.2.2.2.2.2.2.2.2.2.2.1,s.2.2.2.2.2.2.2.2.2.2.2.2.2.2.2.1,s.2.2.2.2.2.2.2.2.2.2.2.2.2.2.2.2.1,s.2.2.2.2.2.2.2.2.2.2.2.2.2.2.2.2.2.1,s.2.2.2.2.2.2.2.2.2.2.2.2.2.2.2.2.2.2.1,())
         else
          bif (Nat.beq (Int.toNat s.2.1.1) 0) then
           none
          else none
   else none
  else none
 else none
def y7 (s:QQ):Option (QQ⊕(Cd⊕Cd)):=
 bif decide (s.1>=0) then
  bif decide (0<=s.1)&&decide (s.1<(List.length s.2.2.1:Int)) then
   let t0:=(List.getD s.2.2.1 (Int.toNat s.1) (0,([],([],(([],([],())),([],([],(0,()))))))))
   match m6 (s.1,t0,s.2.1,s.2.2.2.1,s.2.2.2.2.1,s.2.2.2.2.2.1,s.2.2.2.2.2.2.1,s.2.2.2.2.2.2.2.1,s.2.2.2.2.2.2.2.2.1,s.2.2.2.2.2.2.2.2.2.1,s.2.2.2.2.2.2.2.2.2.2.1,s.2.2.2.2.2.2.2.2.2.2.2.1,s.2.2.2.2.2.2.2.2.2.2.2.2.1,s.2.2.2.2.2.2.2.2.2.2.2.2.2.1,s.2.2.2.2.2.2.2.2.2.2.2.2.2.2.1,s.2.2.2.2.2.2.2.2.2.2.2.2.2.2.2.1,s.2.2.2.2.2.2.2.2.2.2.2.2.2.2.2.2.1,s.2.2.2.2.2.2.2.2.2.2.2.2.2.2.2.2.2.1,s.2.2.2.2.2.2.2.2.2.2.2.2.2.2.2.2.2.2.1,()) with
   |none=>none
   |some ar=>
    bif !ar.1 then
     some (.inr (.inl (ar.2.1,s.2.2.1,ar.2.2.1,ar.2.2.2.1,ar.2.2.2.2.1,ar.2.2.2.2.2.1,ar.2.2.2.2.2.2.1,ar.2.2.2.2.2.2.2.1,ar.2.2.2.2.2.2.2.2.1,ar.2.2.2.2.2.2.2.2.2.1,ar.2.2.2.2.2.2.2.2.2.2.1,ar.2.2.2.2.2.2.2.2.2.2.2.1,ar.2.2.2.2.2.2.2.2.2.2.2.2.1,ar.2.2.2.2.2.2.2.2.2.2.2.2.2.1,ar.2.2.2.2.2.2.2.2.2.2.2.2.2.2.1,ar.2.2.2.2.2.2.2.2.2.2.2.2.2.2.2.1,ar.2.2.2.2.2.2.2.2.2.2.2.2.2.2.2.2.1,ar.2.2.2.2.2.2.2.2.2.2.2.2.2.2.2.2.2.1,())))
    else
     some (.inl ((i64.wrap (s.1-1)),ar.2.1,s.2.2.1,ar.2.2.1,ar.2.2.2.1,ar.2.2.2.2.1,ar.2.2.2.2.2.1,ar.2.2.2.2.2.2.1,ar.2.2.2.2.2.2.2.1,ar.2.2.2.2.2.2.2.2.1,ar.2.2.2.2.2.2.2.2.2.1,ar.2.2.2.2.2.2.2.2.2.2.1,ar.2.2.2.2.2.2.2.2.2.2.2.1,ar.2.2.2.2.2.2.2.2.2.2.2.2.1,ar.2.2.2.2.2.2.2.2.2.2.2.2.2.1,ar.2.2.2.2.2.2.2.2.2.2.2.2.2.2.1,ar.2.2.2.2.2.2.2.2.2.2.2.2.2.2.2.1,ar.2.2.2.2.2.2.2.2.2.2.2.2.2.2.2.2.1,ar.2.2.2.2.2.2.2.2.2.2.2.2.2.2.2.2.2.1,()))
  else none
 else
  some (.inr (.inr (s.2.1,s.2.2.1,s.2.2.2.1,s.2.2.2.2.1,s.2.2.2.2.2.1,s.2.2.2.2.2.2.1,s.2.2.2.2.2.2.2.1,s.2.2.2.2.2.2.2.2.1,s.2.2.2.2.2.2.2.2.2.1,s.2.2.2.2.2.2.2.2.2.2.1,s.2.2.2.2.2.2.2.2.2.2.2.1,s.2.2.2.2.2.2.2.2.2.2.2.2.1,s.2.2.2.2.2.2.2.2.2.2.2.2.2.1,s.2.2.2.2.2.2.2.2.2.2.2.2.2.2.1,s.2.2.2.2.2.2.2.2.2.2.2.2.2.2.2.1,s.2.2.2.2.2.2.2.2.2.2.2.2.2.2.2.2.1,s.2.2.2.2.2.2.2.2.2.2.2.2.2.2.2.2.2.1,s.2.2.2.2.2.2.2.2.2.2.2.2.2.2.2.2.2.2.1,())))
def Mj:=bM y7
def MA (s:Cd):Option Cd:=
 let t0:=(i64.wrap (((List.length s.2.1):Int)-1))
 match Mj (t0,s.1,s.2.1,s.2.2.1,s.2.2.2.1,s.2.2.2.2.1,s.2.2.2.2.2.1,s.2.2.2.2.2.2.1,s.2.2.2.2.2.2.2.1,s.2.2.2.2.2.2.2.2.1,s.2.2.2.2.2.2.2.2.2.1,s.2.2.2.2.2.2.2.2.2.2.1,s.2.2.2.2.2.2.2.2.2.2.2.1,s.2.2.2.2.2.2.2.2.2.2.2.2.1,s.2.2.2.2.2.2.2.2.2.2.2.2.2.1,s.2.2.2.2.2.2.2.2.2.2.2.2.2.2.1,s.2.2.2.2.2.2.2.2.2.2.2.2.2.2.2.1,s.2.2.2.2.2.2.2.2.2.2.2.2.2.2.2.2.1,s.2.2.2.2.2.2.2.2.2.2.2.2.2.2.2.2.2.1,()) with
 |none=>none
 |some (.inl aH)=>
  some (aH.1,aH.2.1,aH.2.2.1,aH.2.2.2.1,aH.2.2.2.2.1,aH.2.2.2.2.2.1,aH.2.2.2.2.2.2.1,aH.2.2.2.2.2.2.2.1,aH.2.2.2.2.2.2.2.2.1,aH.2.2.2.2.2.2.2.2.2.1,aH.2.2.2.2.2.2.2.2.2.2.1,aH.2.2.2.2.2.2.2.2.2.2.2.1,aH.2.2.2.2.2.2.2.2.2.2.2.2.1,aH.2.2.2.2.2.2.2.2.2.2.2.2.2.1,aH.2.2.2.2.2.2.2.2.2.2.2.2.2.2.1,aH.2.2.2.2.2.2.2.2.2.2.2.2.2.2.2.1,aH.2.2.2.2.2.2.2.2.2.2.2.2.2.2.2.2.1,aH.2.2.2.2.2.2.2.2.2.2.2.2.2.2.2.2.2.1,())
 |some (.inr aH)=>
  some (aH.1,aH.2.1,aH.2.2.1,aH.2.2.2.1,aH.2.2.2.2.1,aH.2.2.2.2.2.1,aH.2.2.2.2.2.2.1,aH.2.2.2.2.2.2.2.1,aH.2.2.2.2.2.2.2.2.1,aH.2.2.2.2.2.2.2.2.2.1,aH.2.2.2.2.2.2.2.2.2.2.1,aH.2.2.2.2.2.2.2.2.2.2.2.1,aH.2.2.2.2.2.2.2.2.2.2.2.2.1,aH.2.2.2.2.2.2.2.2.2.2.2.2.2.1,aH.2.2.2.2.2.2.2.2.2.2.2.2.2.2.1,aH.2.2.2.2.2.2.2.2.2.2.2.2.2.2.2.1,aH.2.2.2.2.2.2.2.2.2.2.2.2.2.2.2.2.1,aH.2.2.2.2.2.2.2.2.2.2.2.2.2.2.2.2.2.1,())
def xR (s:af×List a6×Unit):Option (mG×Unit):=
 match zd (s.2.1,()) with
 |none=>none
 |some aj=>
  match MA (0,aj.1,false,false,s.1,[],0,s.1,false,0,false,false,[],[],0,[],false,0,()) with
  |none=>none
  |some ar=>
   bif decide (ar.1=0) then
    some ((ar.2.2.1,(ar.2.2.2.1,((ar.2.2.2.2.1,(ar.2.2.2.2.2.1,(ar.2.2.2.2.2.2.1,()))),(ar.2.2.2.2.2.2.2.1,(ar.2.2.2.2.2.2.2.2.1,(ar.2.2.2.2.2.2.2.2.2.1,())))))),())
   else
    bif decide (ar.1=1) then
     some ((ar.2.2.2.2.2.2.2.2.2.2.1,(ar.2.2.2.2.2.2.2.2.2.2.2.1,((ar.2.2.2.2.2.2.2.2.2.2.2.2.1,(ar.2.2.2.2.2.2.2.2.2.2.2.2.2.1,(ar.2.2.2.2.2.2.2.2.2.2.2.2.2.2.1,()))),(ar.2.2.2.2.2.2.2.2.2.2.2.2.2.2.2.1,(ar.2.2.2.2.2.2.2.2.2.2.2.2.2.2.2.2.1,(ar.2.2.2.2.2.2.2.2.2.2.2.2.2.2.2.2.2.1,())))))),())
    else none
def s6 (s:af×Unit):Option (Bool×Unit):=
 some ((!decide ((s.1:af)=s.1)),())
def Gh (s:ah):Option (Bool×Unit):=
 match s6 (s.1,()) with
 |none=>none
 |some aj=>
  bif aj.1 then
   match s6 (s.2.1,()) with
   |none=>none
   |some ar=>
    bif (!(!ar.1)) then
     some ((Op.bytesLess s.1 s.2.1),())
    else
     some (true,())
  else
   some ((Op.bytesLess s.1 s.2.1),())
def FA (s:af×Unit):Option (Bool×Unit):=
 some ((!decide ((s.1:af)=s.1)),())
def ED (s:QS):Option (QS⊕(((List af)×af×Int×Int×Unit)⊕Unit)):=
 let t0:=decide (s.2.2.2.1<s.2.2.2.2.1)
 bif t0 then
  let t1:=i64.wrap (s.2.2.2.1+s.2.2.2.2.1)
  let t2:Int:=(Int.fdiv (IntKind.u64.wrap t1) (2^(min (Int.toNat 1) IntKind.u64.bits)))
  bif (decide (0<=(i64.wrap t2))&&decide (((i64.wrap t2):Int)<(List.length s.1:Int))) then
   let t3:=(List.getD s.1 (Int.toNat (i64.wrap t2)) [])
   match Gh (t3,s.2.1,()) with
   |none=>none
   |some cT=>
    bif cT.1 then
     let t5:=i64.wrap ((i64.wrap t2)+1)
     some (.inl (s.1,s.2.1,s.2.2.1,t5,s.2.2.2.2.1,()))
    else
     some (.inl (s.1,s.2.1,s.2.2.1,s.2.2.2.1,(i64.wrap t2),()))
  else none
 else
  some (.inr (.inl (s.1,s.2.1,s.2.2.1,s.2.2.2.1,())))
def MD:=bM ED
def EK (s:(List af)×af×Unit):Option Ch:=
 match MD (s.1,s.2.1,((List.length s.1):Int),0,((List.length s.1):Int),()) with
 |none=>none
 |some (.inl z0)=>
  bif decide (z0.2.2.2.1<z0.2.2.1) then
   bif decide (0<=z0.2.2.2.1)&&decide (z0.2.2.2.1<(List.length z0.1:Int)) then
    let t1:=(List.getD z0.1 (Int.toNat z0.2.2.2.1) [])
    bif (!(decide ((t1:af)=z0.2.1))) then
     bif decide (0<=z0.2.2.2.1)&&decide (z0.2.2.2.1<(List.length z0.1:Int)) then
      let t2:=(List.getD z0.1 (Int.toNat z0.2.2.2.1) [])
      match FA (t2,()) with
      |none=>none
      |some bF=>
       bif bF.1 then
        match FA (z0.2.1,()) with
        |none=>none
        |some cT=>
         some (z0.2.2.2.1,cT.1,())
       else
        some (z0.2.2.2.1,false,())
     else none
    else
     some (z0.2.2.2.1,true,())
   else none
  else
   some (z0.2.2.2.1,false,())
 |some (.inr z0)=>
  none
def Da (s:af×(List af)×Unit):Option (Int×Unit):=
 match EK (s.2.1,s.1,()) with
 |none=>none
 |some aj=>
  bif aj.2.1 then
   some ((i64.wrap (aj.1+1)),())
  else
   some (aj.1,())
def CF (s:mG×ak×Bool×Unit):Option (ak×Bool×Unit):=
 bif s.1.1 then
  some (s.1.2.2.1,s.1.2.1,())
 else
  bif !s.2.2.1 then
   some (([],([],(0,()))),false,())
  else
   bif s.1.2.2.2.2.1 then
    some ((s.1.2.2.1.1,(s.2.1.2.1,(s.1.2.2.2.2.2.1,()))),true,())
   else
    some ((s.1.2.2.1.1,(s.2.1.2.1,(s.2.1.2.2.1,()))),true,())
def kv (s:Qw):Option (Qw⊕(Hv⊕Unit)):=
 match j9 (s.2.2.2.1.1,s.2.1,()) with
 |none=>none
 |some aj=>
  bif (!decide (aj.2.1=0)) then
   some (.inr (.inl (aj.2.1,s.2.2.1,([],([],(0,()))),false,0,())))
  else
   let t1:=i64.wrap (s.2.2.2.2.2.2.2.2.1+1)
   match rK (aj.1,()) with
   |none=>none
   |some aM=>
    bif aM.1 then
     match CV (aj.1.1,s.1,()) with
     |none=>none
     |some bF=>
      some (.inr (.inl (0,s.2.2.1,bF.1,bF.2.1,t1,())))
    else
     match xR (s.1,aj.1.2.2.2.2.1,()) with
     |none=>none
     |some bF=>
      bif bF.1.1 then
       some (.inr (.inl (0,(bF.1::s.2.2.1),([],([],(0,()))),false,t1,())))
      else
       match Da (bF.1.2.2.2.1,aj.1.2.1,()) with
       |none=>none
       |some cT=>
        bif decide (0<=cT.1)&&decide (cT.1<(List.length aj.1.2.2.1:Int)) then
         let t5:=(List.getD aj.1.2.2.1 (Int.toNat cT.1) 0)
         some (.inl (bF.1.2.2.2.1,t5,(bF.1::s.2.2.1),s.2.2.2.1,s.2.2.2.2.1,s.2.2.2.2.2.1,s.2.2.2.2.2.2.1,s.2.2.2.2.2.2.2.1,t1,()))
        else none
def CG:=bM kv
def rt (s:Hv):Option (Hv⊕((Int×ak×Bool×Int×Unit)⊕Unit)):=
 bif (List.isEmpty s.2.1) then
  some (.inr (.inl (s.1,s.2.2.1,s.2.2.2.1,s.2.2.2.2.1,())))
 else
  match (List.head? s.2.1) with
  |none=>none
  |some Bw=>
   let t1:=decide (s.2.2.2.2.1>0)
   bif t1 then
    match CF (Bw,s.2.2.1,s.2.2.2.1,()) with
    |none=>none
    |some aM=>
     some (.inl (s.1,(List.tail s.2.1),aM.1,aM.2.1,s.2.2.2.2.1,()))
   else
    some (.inl (s.1,(List.tail s.2.1),s.2.2.1,s.2.2.2.1,s.2.2.2.2.1,()))
def Bz:=bM rt
def oq (s:Cf):Option mL:=
 match CG (s.2.1,s.1.2.1,[],s.1,[],[],0,false,0,()) with
 |none=>none
 |some (.inl z0)=>
  match Bz (z0.1,z0.2.1,z0.2.2.1,z0.2.2.2.1,z0.2.2.2.2.1,()) with
  |none=>none
  |some (.inl aH)=>
   some (aH.2.1,aH.2.2.1,aH.2.2.2.1,aH.1,())
  |some (.inr aH)=>
   none
 |some (.inr z0)=>
  none
def GY (s:fa):Option (Bool×Unit):=
 bif decide (s.2.1<=s.1) then
  some ((decide (s.1<=s.2.2.1)),())
 else
  some (false,())
def Kc (s:fa×Unit):Option (Bool×Unit):=
 match GY (s.1.1,2,64,()) with
 |none=>none
 |some aj=>
  bif aj.1 then
   match GY (s.1.2.1,2,16,()) with
   |none=>none
   |some ar=>
    bif ar.1 then
     match GY (s.1.2.2.1,1,64,()) with
     |none=>none
     |some aM=>
      some (aM.1,())
    else
     some (false,())
  else
   some (false,())
def XD (s:cX×Unit):Option (Bool×Unit):=
 some ((!s.1.1),())
def acs (s:List cX×Int×Int×Unit):Option ((List cX×Int×Int×Unit)⊕((Int×Unit)⊕Unit)):=
 bif decide (s.2.2.1<s.2.1) then
  bif decide (0<=s.2.2.1)&&decide (s.2.2.1<(List.length s.1:Int)) then
   let t0:=(List.getD s.1 (Int.toNat s.2.2.1) (false,(false,(0,(([],([],([],([],([],()))))),())))))
   match XD (t0,()) with
   |none=>none
   |some ar=>
    bif ar.1 then
     some (.inr (.inl (s.2.2.1,())))
    else
     some (.inl (s.1,s.2.1,(i64.wrap (s.2.2.1+1)),()))
  else none
 else
  some (.inr (.inr (())))
def acv:=bM acs
def adi (s:bN):Option (Int×Unit):=
 match acv (s.1,((List.length s.1):Int),0,()) with
 |none=>none
 |some (.inl z0)=>
  some (z0.1,())
 |some (.inr z0)=>
  some ((-1:Int),())
def J0 (s:bN×Unit):Option bN:=
 bif (decide (0<=((List.length s.1.1):Int))&&decide ((((List.length s.1.1):Int):Int)<=((List.length s.1.1):Int))&&decide (((List.length s.1.1):Int)*136<=(bm:Int))) then
  let t0:=(List.take (List.length (List.replicate (Int.toNat ((List.length s.1.1):Int)) (false,(false,((0:Int),((([]:List ak),(([]:List af),(([]:List Int),(([]:List dY),(([]:List a6),()))))),())))))) s.1.1)
  let t1:=(List.take 0 (List.replicate (Int.toNat ((List.length s.1.1):Int)) (false,(false,((0:Int),((([]:List ak),(([]:List af),(([]:List Int),(([]:List dY),(([]:List a6),()))))),())))))++t0++List.drop (0+List.length t0) (List.replicate (Int.toNat ((List.length s.1.1):Int)) (false,(false,((0:Int),((([]:List ak),(([]:List af),(([]:List Int),(([]:List dY),(([]:List a6),()))))),()))))))
  some (t1,())
 else none
def WC (s:QT):Option (QT⊕((Int×Int×bN×Unit)⊕(bN×bq×List cX×Unit))):=
 bif decide (s.2.2.1<s.2.1) then
  bif decide (0<=s.2.2.1)&&decide (s.2.2.1<(List.length s.1:Int)) then
   let t0:=(List.getD s.1 (Int.toNat s.2.2.1) 0)
   match xa (s.2.2.2.1,t0,()) with
   |none=>none
   |some ar=>
    bif !ar.1 then
     some (.inr (.inl (0,110,s.2.2.2.1,())))
    else
     some (.inl (s.1,s.2.1,(i64.wrap (s.2.2.1+1)),s.2.2.2.1,s.2.2.2.2.1,s.2.2.2.2.2.1,()))
  else none
 else
  some (.inr (.inr (s.2.2.2.1,s.2.2.2.2.1,s.2.2.2.2.2.1,())))
def WH:=bM WC
def WD (s:QU):Option (QU⊕((Int×List cX×List cX×Unit)⊕Unit)):=
 bif decide (s.2.2.2.1<s.2.2.1) then
  bif decide (0<=s.2.2.2.1)&&decide (s.2.2.2.1<(List.length s.2.1:Int)) then
   let t0:=(List.getD s.2.1 (Int.toNat s.2.2.2.1) 0)
   bif decide (0<=t0)&&decide (t0<(List.length s.2.2.2.2.2.1:Int)) then
    let t1:=(List.getD s.2.2.2.2.2.1 (Int.toNat t0) (false,(false,(0,(([],([],([],([],([],()))))),())))))
    let t2:=i64.wrap (t1.2.2.1+1)
    bif decide (0<=t0)&&decide (t0<(List.length s.2.2.2.2.2.1:Int)) then
     let t3:=(List.set s.2.2.2.2.2.1 (Int.toNat t0) ((List.getD s.2.2.2.2.2.1 (Int.toNat t0) (false,(false,(0,(([],([],([],([],([],()))))),()))))).1,((List.getD s.2.2.2.2.2.1 (Int.toNat t0) (false,(false,(0,(([],([],([],([],([],()))))),()))))).2.1,(t2,(List.getD s.2.2.2.2.2.1 (Int.toNat t0) (false,(false,(0,(([],([],([],([],([],()))))),()))))).2.2.2))))
     let t4:=i64.wrap (s.2.2.2.1+1)
     some (.inl (s.1,s.2.1,s.2.2.1,t4,s.2.2.2.2.1,t3,()))
    else none
   else none
  else none
 else
  some (.inr (.inl (s.1,s.2.2.2.2.1,s.2.2.2.2.2.1,())))
def WI:=bM WD
def WG (s:Int×bq×List cX×List cX×Unit):Option n7:=
 bif decide (0<=s.1)&&decide (s.1<(List.length s.2.2.2.1:Int)) then
  let t0:=(List.set s.2.2.2.1 (Int.toNat s.1) (true,(false,(1,(s.2.1,())))))
  match WI (s.1,s.2.1.2.2.1,((List.length s.2.1.2.2.1):Int),0,s.2.2.1,t0,()) with
  |none=>none
  |some (.inl aH)=>
   some ((aH.2.2.1,()),aH.1,0,())
  |some (.inr aH)=>
   none
 else none
def WE (s:Int×bN×bq×List cX×Unit):Option n7:=
 bif decide (s.1>=4096) then
  some (s.2.1,0,111,())
 else
  match J0 (s.2.1,()) with
  |none=>none
  |some aj=>
   let t1:=(decide (s.1=((List.length aj.1):Int)))
   bif t1 then
    bif (decide ((List.length aj.1+List.length ([(false,(false,(0,(([],([],([],([],([],()))))),()))))]:List cX))*136<=bm)) then
     let t2:List cX:=(aj.1++([(false,(false,(0,(([],([],([],([],([],()))))),()))))]:List cX))
     WG (s.1,s.2.2.1,s.2.2.2.1,t2,())
    else none
   else
    WG (s.1,s.2.2.1,s.2.2.2.1,aj.1,())
def Dj (s:bN×bq×Unit):Option n7:=
 match WH (s.2.1.2.2.1,((List.length s.2.1.2.2.1):Int),0,s.1,s.2.1,[],()) with
 |none=>none
 |some (.inl z0)=>
  some (z0.2.2.1,z0.1,z0.2.1,())
 |some (.inr z0)=>
  match adi (z0.1.1,()) with
  |none=>none
  |some ar=>
   bif decide (ar.1<0) then
    WE (((List.length z0.1.1):Int),z0.1,z0.2.1,z0.2.2.1,())
   else
    WE (ar.1,z0.1,z0.2.1,z0.2.2.1,())
def KY (s:fa×Unit):Option (cy×Int×Unit):=
 match Kc (s.1,()) with
 |none=>none
 |some aj=>
  bif !aj.1 then
   some ((([],()),(0,((0,(0,(0,()))),()))),120,())
  else
   match Dj (([],()),([],([],([],([],([],()))))),()) with
   |none=>none
   |some ar=>
    some ((ar.1,(ar.2.1,(s.1,()))),ar.2.2.1,())
def pM (s:Int×Unit):Option (af×Unit):=
 let t0:=(decide (((Int.tmod s.1 24):Int)<20))
 bif t0 then
  let t1:=(IntKind.u8.wrap (Int.tdiv (Int.tmod s.1 24) 5))
  bif (decide (0<=t1)&&decide (t1<(List.length ([([97,47]:af),([98,47]:af),([97,47,98,47]:af),([99,47]:af)]:List af):Int))) then
   let t2:=(List.getD ([([97,47]:af),([98,47]:af),([97,47,98,47]:af),([99,47]:af)]:List af) (Int.toNat t1) [])
   let t3:Int:=(Int.tmod (Int.tmod s.1 24) 5)
   bif (decide (0<=t3)&&decide (t3<(List.length ([([1]:af),([2,0,0]:af),([2,0,1]:af),([2,0,2]:af),([3,120]:af)]:List af):Int))) then
    let t4:=(List.getD ([([1]:af),([2,0,0]:af),([2,0,1]:af),([2,0,2]:af),([3,120]:af)]:List af) (Int.toNat t3) [])
    bif decide (List.length t2+List.length t4<=bm) then
     some ((t2++t4),())
    else none
   else none
  else none
 else
  let t1:=(IntKind.u8.wrap ((Int.tmod s.1 24)-20))
  bif (decide (0<=t1)&&decide (t1<(List.length ([([1]:af),([5,48,48,48,48,48,48,48,49,47,1]:af),([6,97,47,1]:af),([97,47,98,47,99,47,1]:af)]:List af):Int))) then
   let t2:=(List.getD ([([1]:af),([5,48,48,48,48,48,48,48,49,47,1]:af),([6,97,47,1]:af),([97,47,98,47,99,47,1]:af)]:List af) (Int.toNat t1) [])
   some (t2,())
  else none
def CM (s:fa×Unit):Option (ak×Unit):=
 match pM (s.1.1,()) with
 |none=>none
 |some aj=>
  bif (decide (0<=(Int.tmod s.1.2.1 4))&&decide (((Int.tmod s.1.2.1 4):Int)<(List.length ([[],([118]:af),([119,120]:af),([120,121,122]:af)]:List af):Int))) then
   let t1:=(List.getD ([[],([118]:af),([119,120]:af),([120,121,122]:af)]:List af) (Int.toNat (Int.tmod s.1.2.1 4)) [])
   let t2:=i64.wrap (Int.tmod s.1.2.2.1 4)
   some ((aj.1,(t1,(t2,()))),())
  else none
def Py (s:nG):Option (nG⊕((Bool×ak×List ak×Unit)⊕Unit)):=
 bif decide (0<=s.2.2.1)&&decide (s.2.2.1<(List.length s.1:Int)) then
  let t0:=(List.getD s.1 (Int.toNat s.2.2.1) ([],([],(0,()))))
  let t1:=(!decide ((t0.1:af)=s.2.2.2.1.1))
  bif t1 then
   bif decide (0<=s.2.2.1)&&decide (s.2.2.1<(List.length s.1:Int)) then
    let t2:=(List.getD s.1 (Int.toNat s.2.2.1) ([],([],(0,()))))
    bif (decide ((List.length s.2.2.2.2.1+List.length ([t2]:List ak))*40<=bm)) then
     let t3:List ak:=(s.2.2.2.2.1++([t2]:List ak))
     some (.inl (s.1,s.2.1,(i64.wrap (s.2.2.1+1)),s.2.2.2.1,t3,()))
    else none
   else none
  else
   some (.inl (s.1,s.2.1,(i64.wrap (s.2.2.1+1)),s.2.2.2.1,s.2.2.2.2.1,()))
 else none
def Pz (s:QZ):Option (nG⊕((Bool×ak×List ak×Unit)⊕Unit)):=
 bif s.2.2.2.1 then
  bif (decide ((List.length s.2.2.2.2.2.1+List.length ([s.2.2.2.2.1]:List ak))*40<=bm)) then
   let t0:List ak:=(s.2.2.2.2.2.1++([s.2.2.2.2.1]:List ak))
   Py (s.1,true,s.2.2.1,s.2.2.2.2.1,t0,())
  else none
 else
  Py (s.1,s.2.1,s.2.2.1,s.2.2.2.2.1,s.2.2.2.2.2.1,())
def Be (s:nG):Option (nG⊕((Bool×ak×List ak×Unit)⊕Unit)):=
 let t0:=(decide (s.2.2.1<((List.length s.1):Int)))
 bif t0 then
  bif !s.2.1 then
   bif decide (0<=s.2.2.1)&&decide (s.2.2.1<(List.length s.1:Int)) then
    let t1:=(List.getD s.1 (Int.toNat s.2.2.1) ([],([],(0,()))))
    Pz (s.1,s.2.1,s.2.2.1,(!(Op.bytesLess t1.1 s.2.2.2.1.1)),s.2.2.2.1,s.2.2.2.2.1,())
   else none
  else
   Pz (s.1,s.2.1,s.2.2.1,false,s.2.2.2.1,s.2.2.2.2.1,())
 else
  some (.inr (.inl (s.2.1,s.2.2.2.1,s.2.2.2.2.1,())))
def I2:=bM Be
def C9 (s:List ak×ak×Unit):Option (List ak×Unit):=
 match I2 (s.1,false,0,s.2.1,[],()) with
 |none=>none
 |some (.inl z0)=>
  bif !z0.1 then
   bif (decide ((List.length z0.2.2.1+List.length ([z0.2.1]:List ak))*40<=bm)) then
    let t1:List ak:=(z0.2.2.1++([z0.2.1]:List ak))
    some (t1,())
   else none
  else
   some (z0.2.2.1,())
 |some (.inr z0)=>
  none
def Ap (s:List fa×Int×Bool×List ak×Unit):Option (Hz⊕((List ak×Unit)⊕Unit)):=
 bif s.2.2.1 then
  bif decide (0<=s.2.1)&&decide (s.2.1<(List.length s.1:Int)) then
   let t0:=(List.getD s.1 (Int.toNat s.2.1) (0,(0,(0,()))))
   match CM (t0,()) with
   |none=>none
   |some ar=>
    match C9 (s.2.2.2.1,ar.1,()) with
    |none=>none
    |some aM=>
     some (.inl (s.1,(i64.wrap (s.2.1+1)),aM.1,()))
  else none
 else
  some (.inr (.inl (s.2.2.2.1,())))
def wF (s:Hz):Option (Hz⊕((List ak×Unit)⊕Unit)):=
 let t0:=(decide (s.2.1<((List.length s.1):Int)))
 bif t0 then
  Ap (s.1,s.2.1,(decide (s.2.1<40)),s.2.2.1,())
 else
  Ap (s.1,s.2.1,false,s.2.2.1,())
def GL:=bM wF
def xG (s:List fa×Unit):Option (List ak×Unit):=
 match GL (s.1,0,[],()) with
 |none=>none
 |some (.inl z0)=>
  some (z0.1,())
 |some (.inr z0)=>
  none
def xc (s:er):Option (bq×Int×Unit):=
 match wl (s.1,s.2.1,()) with
 |none=>none
 |some aj=>
  bif !aj.1 then
   some (([],([],([],([],([],()))))),110,())
  else
   bif decide (0<=s.2.1)&&decide (s.2.1<(List.length s.1.1:Int)) then
    let t1:=(List.getD s.1.1 (Int.toNat s.2.1) (false,(false,(0,(([],([],([],([],([],()))))),())))))
    bif t1.2.1 then
     some (([],([],([],([],([],()))))),112,())
    else
     bif decide (0<=s.2.1)&&decide (s.2.1<(List.length s.1.1:Int)) then
      let t2:=(List.getD s.1.1 (Int.toNat s.2.1) (false,(false,(0,(([],([],([],([],([],()))))),())))))
      some (t2.2.2.2.1,0,())
     else none
   else none
def od (s:Int×Unit):Option (af×Unit):=
 bif (decide (0<=(Int.tmod s.1 5))&&decide (((Int.tmod s.1 5):Int)<(List.length ([([97,47]:af),([98,47]:af),([97,47,98,47]:af),([99,47]:af),([100,47]:af)]:List af):Int))) then
  let t0:=(List.getD ([([97,47]:af),([98,47]:af),([97,47,98,47]:af),([99,47]:af),([100,47]:af)]:List af) (Int.toNat (Int.tmod s.1 5)) [])
  some (t0,())
 else none
def xb (s:Int×Unit):Option (af×Unit):=
 match od ((Int.tmod s.1 4),()) with
 |none=>none
 |some aj=>
  let t1:=(IntKind.u8.wrap (Int.tdiv s.1 4))
  bif (decide (0<=(Int.tmod t1 5))&&decide (((Int.tmod t1 5):Int)<(List.length ([([1]:af),([2,0,0]:af),([2,0,1]:af),([2,0,2]:af),([3,120]:af)]:List af):Int))) then
   let t2:=(List.getD ([([1]:af),([2,0,0]:af),([2,0,1]:af),([2,0,2]:af),([3,120]:af)]:List af) (Int.toNat (Int.tmod t1 5)) [])
   bif decide (List.length aj.1+List.length t2<=bm) then
    some ((aj.1++t2),())
   else none
  else none
def Tp (s:HE):Option (HE⊕(HE⊕Unit)):=
 bif decide (s.2.1>0) then
  bif (decide (0<=(i64.wrap (s.2.1-1)))&&decide (((i64.wrap (s.2.1-1)):Int)<(List.length s.1:Int))) then
   let t0:Int:=((List.getD s.1 (Int.toNat (i64.wrap (s.2.1-1))) 0).toNat:Int)
   bif decide (t0=255) then
    some (.inl (s.1,(i64.wrap (s.2.1-1)),s.2.2.1,s.2.2.2.1,()))
   else
    some (.inr (.inl (s.1,s.2.1,s.2.2.1,s.2.2.2.1,())))
  else none
 else
  some (.inr (.inl (s.1,s.2.1,s.2.2.1,s.2.2.2.1,())))
def Tr:=bM Tp
def l8 (s:af×Unit):Option (ah×Unit):=
 match Tr (s.1,((List.length s.1):Int),[],[],()) with
 |none=>none
 |some (.inl z0)=>
  bif decide (z0.2.1=0) then
   some ((z0.1,([],())),())
  else
   bif (decide ((0:Int)<=(i64.wrap (z0.2.1-1)))&&decide (((i64.wrap (z0.2.1-1)):Int)<=(List.length z0.1:Int))) then
    let t1:=(List.drop 0 (List.take (Int.toNat (i64.wrap (z0.2.1-1))) z0.1))
    bif (decide (0<=(i64.wrap (z0.2.1-1)))&&decide (((i64.wrap (z0.2.1-1)):Int)<(List.length z0.1:Int))) then
     let t2:Int:=((List.getD z0.1 (Int.toNat (i64.wrap (z0.2.1-1))) 0).toNat:Int)
     let t3:af:=(rQ ([(IntKind.u8.wrap (t2+1))]:List Int))
     bif decide (List.length t1+List.length t3<=bm) then
      some ((z0.1,((t1++t3),())),())
     else none
    else none
   else none
 |some (.inr z0)=>
  none
def q4 (s:ah):Option (Bool×Unit):=
 let t0:=(decide ((((List.length s.1):Int):Int)>=((List.length s.2.1):Int)))
 bif t0 then
  bif (decide ((0:Int)<=((List.length s.2.1):Int))&&decide ((((List.length s.2.1):Int):Int)<=(List.length s.1:Int))) then
   let t1:=(List.drop 0 (List.take (Int.toNat ((List.length s.2.1):Int)) s.1))
   some ((decide ((t1:af)=s.2.1)),())
  else none
 else
  some (false,())
def tu (s:Int×Unit):Option (af×Unit):=
 bif (decide (0<=(Int.tmod s.1 5))&&decide (((Int.tmod s.1 5):Int)<(List.length ([[],([120]:af),([121,121]:af),([49,50,51,52,53,54,55,56,57,48]:af),([0,255]:af)]:List af):Int))) then
  let t0:=(List.getD ([[],([120]:af),([121,121]:af),([49,50,51,52,53,54,55,56,57,48]:af),([0,255]:af)]:List af) (Int.toNat (Int.tmod s.1 5)) [])
  some (t0,())
 else none
def mK (s:af×Unit):Option (ah×Unit):=
 bif decide (List.length s.1+List.length ([0]:af)<=bm) then
  some ((s.1,((s.1++([0]:af)),())),())
 else none
def qF (s:af×af×af×Bool×oH×Int×af×af×af×af×af×af×Int×ah×Unit):Option (QP⊕Unit):=
 bif s.2.2.2.1 then
  let t0:=decide ((s.2.1:af)=([100,47]:af))
  bif t0 then
   some (.inl (s.1,s.2.1,([99,47]:af),s.2.2.2.2.1,s.2.2.2.2.2.1,s.2.2.2.2.2.2.1,s.2.2.2.2.2.2.2.1,s.2.2.2.2.2.2.2.2.1,s.2.2.2.2.2.2.2.2.2.1,s.2.2.2.2.2.2.2.2.2.2.1,s.2.2.2.2.2.2.2.2.2.2.2.1,s.2.2.2.2.2.2.2.2.2.2.2.2.1,s.2.2.2.2.2.2.2.2.2.2.2.2.2.1,()))
  else
   some (.inl (s.1,s.2.1,([100,47]:af),s.2.2.2.2.1,s.2.2.2.2.2.1,s.2.2.2.2.2.2.1,s.2.2.2.2.2.2.2.1,s.2.2.2.2.2.2.2.2.1,s.2.2.2.2.2.2.2.2.2.1,s.2.2.2.2.2.2.2.2.2.2.1,s.2.2.2.2.2.2.2.2.2.2.2.1,s.2.2.2.2.2.2.2.2.2.2.2.2.1,s.2.2.2.2.2.2.2.2.2.2.2.2.2.1,()))
 else
  some (.inl (s.1,s.2.1,s.2.2.1,s.2.2.2.2.1,s.2.2.2.2.2.1,s.2.2.2.2.2.2.1,s.2.2.2.2.2.2.2.1,s.2.2.2.2.2.2.2.2.1,s.2.2.2.2.2.2.2.2.2.1,s.2.2.2.2.2.2.2.2.2.2.1,s.2.2.2.2.2.2.2.2.2.2.2.1,s.2.2.2.2.2.2.2.2.2.2.2.2.1,s.2.2.2.2.2.2.2.2.2.2.2.2.2.1,()))
def pt (s:QP):Option (a6⊕Unit):=
 let t0:Int:=(Int.tmod s.2.2.2.1.2.2.2.2.2.1 8)
 let t1:=(decide (((Int.tmod s.2.2.2.1.1 6):Int)=0))
 bif t1 then
  match tu (s.2.2.2.1.2.2.1,()) with
  |none=>none
  |some aM=>
   some (.inl (1,s.1,aM.1,([],([],())),[],[],(i64.wrap t0),()))
 else
  let t2:=(decide (((Int.tmod s.2.2.2.1.1 6):Int)=1))
  bif t2 then
   some (.inl (2,s.1,[],([],([],())),[],[],0,()))
  else
   let t3:=(decide (((Int.tmod s.2.2.2.1.1 6):Int)=2))
   bif t3 then
    some (.inl (3,[],[],s.2.2.2.2.2.2.2.2.2.2.2.2.1,[],[],0,()))
   else
    let t4:=(decide (((Int.tmod s.2.2.2.1.1 6):Int)=3))
    bif t4 then
     some (.inl (4,[],[],([],([],())),s.2.1,s.2.2.1,0,()))
    else
     let t5:=(decide (((Int.tmod s.2.2.2.1.1 6):Int)=4))
     bif t5 then
      some (.inl (5,[],[],([],([],())),s.2.1,s.2.2.1,0,()))
     else
      some (.inl (6,[],[],s.2.2.2.2.2.2.2.2.2.2.2.2.1,[],[],(i64.wrap t0),()))
def lJ (s:af×oH×Int×af×af×af×af×af×af×Int×ah×Unit):Option (a6⊕Unit):=
 match od (s.2.1.2.1,()) with
 |none=>none
 |some aj=>
  match od (s.2.1.2.2.2.1,()) with
  |none=>none
  |some ar=>
   match q4 (aj.1,ar.1,()) with
   |none=>none
   |some aM=>
    bif !aM.1 then
     match q4 (ar.1,aj.1,()) with
     |none=>none
     |some bF=>
      match qF (s.1,aj.1,ar.1,bF.1,s.2.1,s.2.2.1,s.2.2.2.1,s.2.2.2.2.1,s.2.2.2.2.2.1,s.2.2.2.2.2.2.1,s.2.2.2.2.2.2.2.1,s.2.2.2.2.2.2.2.2.1,s.2.2.2.2.2.2.2.2.2.1,s.2.2.2.2.2.2.2.2.2.2.1,()) with
      |none=>none
      |some (.inl z4)=>
       match pt (z4.1,z4.2.1,z4.2.2.1,z4.2.2.2.1,z4.2.2.2.2.1,z4.2.2.2.2.2.1,z4.2.2.2.2.2.2.1,z4.2.2.2.2.2.2.2.1,z4.2.2.2.2.2.2.2.2.1,z4.2.2.2.2.2.2.2.2.2.1,z4.2.2.2.2.2.2.2.2.2.2.1,z4.2.2.2.2.2.2.2.2.2.2.2.1,z4.2.2.2.2.2.2.2.2.2.2.2.2.1,()) with
       |none=>none
       |some (.inl z5)=>
        some (.inl (z5.1,z5.2.1,z5.2.2.1,z5.2.2.2.1,z5.2.2.2.2.1,z5.2.2.2.2.2.1,z5.2.2.2.2.2.2.1,()))
       |some (.inr z5)=>
        none
      |some (.inr z4)=>
       none
    else
     match qF (s.1,aj.1,ar.1,true,s.2.1,s.2.2.1,s.2.2.2.1,s.2.2.2.2.1,s.2.2.2.2.2.1,s.2.2.2.2.2.2.1,s.2.2.2.2.2.2.2.1,s.2.2.2.2.2.2.2.2.1,s.2.2.2.2.2.2.2.2.2.1,s.2.2.2.2.2.2.2.2.2.2.1,()) with
     |none=>none
     |some (.inl z3)=>
      match pt (z3.1,z3.2.1,z3.2.2.1,z3.2.2.2.1,z3.2.2.2.2.1,z3.2.2.2.2.2.1,z3.2.2.2.2.2.2.1,z3.2.2.2.2.2.2.2.1,z3.2.2.2.2.2.2.2.2.1,z3.2.2.2.2.2.2.2.2.2.1,z3.2.2.2.2.2.2.2.2.2.2.1,z3.2.2.2.2.2.2.2.2.2.2.2.1,z3.2.2.2.2.2.2.2.2.2.2.2.2.1,()) with
      |none=>none
      |some (.inl z4)=>
       some (.inl (z4.1,z4.2.1,z4.2.2.1,z4.2.2.2.1,z4.2.2.2.2.1,z4.2.2.2.2.2.1,z4.2.2.2.2.2.2.1,()))
      |some (.inr z4)=>
       none
     |some (.inr z3)=>
      none
def w0 (s:oH×Unit):Option (a6×Unit):=
 match xb (s.1.2.1,()) with
 |none=>none
 |some aj=>
  match xb (s.1.2.2.2.1,()) with
  |none=>none
  |some ar=>
   let t2:af:=(bif (Op.bytesLess aj.1 ar.1||decide ((aj.1:af)=ar.1)) then aj.1 else ar.1)
   let t3:af:=(bif !(Op.bytesLess aj.1 ar.1) then aj.1 else ar.1)
   let t4:=(decide (((Int.tmod s.1.2.2.2.2.1 4):Int)=0))
   bif t4 then
    match od (s.1.2.1,()) with
    |none=>none
    |some fH=>
     match l8 (fH.1,()) with
     |none=>none
     |some gQ=>
      match lJ (aj.1,s.1,0,[],[],[],[],[],[],0,gQ.1,()) with
      |none=>none
      |some (.inl e2)=>
       some ((e2.1,(e2.2.1,(e2.2.2.1,(e2.2.2.2.1,(e2.2.2.2.2.1,(e2.2.2.2.2.2.1,(e2.2.2.2.2.2.2.1,()))))))),())
      |some (.inr e2)=>
       none
   else
    let t5:=(decide (((Int.tmod s.1.2.2.2.2.1 16):Int)=1))
    bif t5 then
     match lJ (aj.1,s.1,0,[],[],[],[],[],[],0,(aj.1,([],())),()) with
     |none=>none
     |some (.inl jq)=>
      some ((jq.1,(jq.2.1,(jq.2.2.1,(jq.2.2.2.1,(jq.2.2.2.2.1,(jq.2.2.2.2.2.1,(jq.2.2.2.2.2.2.1,()))))))),())
     |some (.inr jq)=>
      none
    else
     let t6:=(decide (((Int.tmod s.1.2.2.2.2.1 16):Int)=5))
     bif t6 then
      match lJ (aj.1,s.1,0,[],[],[],[],[],[],0,([],([],())),()) with
      |none=>none
      |some (.inl e2)=>
       some ((e2.1,(e2.2.1,(e2.2.2.1,(e2.2.2.2.1,(e2.2.2.2.2.1,(e2.2.2.2.2.2.1,(e2.2.2.2.2.2.2.1,()))))))),())
      |some (.inr e2)=>
       none
     else
      bif decide ((aj.1:af)=ar.1) then
       match mK (aj.1,()) with
       |none=>none
       |some AL=>
        match lJ (aj.1,s.1,0,[],[],[],[],[],[],0,AL.1,()) with
        |none=>none
        |some (.inl mf)=>
         some ((mf.1,(mf.2.1,(mf.2.2.1,(mf.2.2.2.1,(mf.2.2.2.2.1,(mf.2.2.2.2.2.1,(mf.2.2.2.2.2.2.1,()))))))),())
        |some (.inr mf)=>
         none
      else
       match lJ (aj.1,s.1,0,[],[],[],[],[],[],0,(t2,(t3,())),()) with
       |none=>none
       |some (.inl e2)=>
        some ((e2.1,(e2.2.1,(e2.2.2.1,(e2.2.2.2.1,(e2.2.2.2.2.1,(e2.2.2.2.2.2.1,(e2.2.2.2.2.2.2.1,()))))))),())
       |some (.inr e2)=>
        none
def Aq (s:(List oH)×Int×Int×Bool×List a6×Unit):Option (Hp⊕((List a6×Unit)⊕Unit)):=
 bif s.2.2.2.1 then
  bif decide (0<=s.2.2.1)&&decide (s.2.2.1<(List.length s.1:Int)) then
   let t0:=(List.getD s.1 (Int.toNat s.2.2.1) (0,(0,(0,(0,(0,(0,())))))))
   match w0 (t0,()) with
   |none=>none
   |some ar=>
    bif (decide ((List.length s.2.2.2.2.1+List.length ([ar.1]:List a6))*112<=bm)) then
     let t2:List a6:=(s.2.2.2.2.1++([ar.1]:List a6))
     some (.inl (s.1,s.2.1,(i64.wrap (s.2.2.1+1)),t2,()))
    else none
  else none
 else
  some (.inr (.inl (s.2.2.2.2.1,())))
def wG (s:Hp):Option (Hp⊕((List a6×Unit)⊕Unit)):=
 let t0:=(decide (s.2.2.1<((List.length s.1):Int)))
 bif t0 then
  Aq (s.1,s.2.1,s.2.2.1,(decide (s.2.2.1<s.2.1)),s.2.2.2.1,())
 else
  Aq (s.1,s.2.1,s.2.2.1,false,s.2.2.2.1,())
def Ij:=bM wG
def CN (s:(List oH)×Int×Unit):Option (List a6×Unit):=
 match Ij (s.1,s.2.1,0,[],()) with
 |none=>none
 |some (.inl z0)=>
  some (z0.1,())
 |some (.inr z0)=>
  none
def pw (s:Int×Bool×a6×Unit):Option (List ah×Unit):=
 bif s.2.1 then
  match l8 (s.2.2.1.2.2.2.2.1,()) with
  |none=>none
  |some aj=>
   some (([aj.1]:List ah),())
 else
  bif decide (s.1=6) then
   some (([s.2.2.1.2.2.2.1]:List ah),())
  else
   some ([],())
def mI (s:a6×Unit):Option (List ah×Unit):=
 bif decide (s.1.1=4) then
  pw (s.1.1,true,s.1,())
 else
  pw (s.1.1,(decide (s.1.1=5)),s.1,())
def mq (s:Int×Bool×a6×Unit):Option (List ah×Unit):=
 bif s.2.1 then
  match mK (s.2.2.1.2.1,()) with
  |none=>none
  |some aj=>
   some (([aj.1]:List ah),())
 else
  bif decide (s.1=4) then
   match l8 (s.2.2.1.2.2.2.2.1,()) with
   |none=>none
   |some aj=>
    match l8 (s.2.2.1.2.2.2.2.2.1,()) with
    |none=>none
    |some ar=>
     some (([aj.1,ar.1]:List ah),())
  else
   bif decide (s.1=5) then
    match l8 (s.2.2.1.2.2.2.2.2.1,()) with
    |none=>none
    |some aj=>
     some (([aj.1]:List ah),())
   else
    some (([s.2.2.1.2.2.2.1]:List ah),())
def kr (s:a6×Unit):Option (List ah×Unit):=
 bif decide (s.1.1=1) then
  mq (s.1.1,true,s.1,())
 else
  mq (s.1.1,(decide (s.1.1=2)),s.1,())
def n9 (s:r2):Option (Bool×Unit):=
 match ra (s.2.1,()) with
 |none=>none
 |some aj=>
  bif !aj.1 then
   match ra (s.1,()) with
   |none=>none
   |some ar=>
    bif !ar.1 then
     let t2:=(Op.bytesLess s.1.1 s.2.1.1||decide ((s.1.1:af)=s.2.1.1))
     bif t2 then
      match tH (s.1.2.1,s.2.1.2.1,()) with
      |none=>none
      |some bF=>
       some ((!bF.1),())
     else
      some (false,())
    else
     some (false,())
  else
   some (true,())
def qZ (s:Int×ah×List ah×Unit):Option ((Int×ah×List ah×Unit)⊕((Bool×Unit)⊕Unit)):=
 let t0:=(decide (s.1<((List.length s.2.2.1):Int)))
 bif t0 then
  bif decide (0<=s.1)&&decide (s.1<(List.length s.2.2.1:Int)) then
   let t1:=(List.getD s.2.2.1 (Int.toNat s.1) ([],([],())))
   match n9 (s.2.1,t1,()) with
   |none=>none
   |some aM=>
    bif !aM.1 then
     some (.inr (.inl (false,())))
    else
     some (.inl ((i64.wrap (s.1+1)),s.2.1,s.2.2.1,()))
  else none
 else
  some (.inr (.inr (())))
def GN:=bM qZ
def kc (s:a6×ah×Unit):Option (Bool×Unit):=
 match mI (s.1,()) with
 |none=>none
 |some aj=>
  bif (decide ((List.length ([]:List ah)+List.length aj.1)*32<=bm)) then
   let t1:List ah:=([]++aj.1)
   match kr (s.1,()) with
   |none=>none
   |some aM=>
    bif decide ((List.length t1+List.length aM.1)*32<=bm) then
     match GN (0,s.2.1,(t1++aM.1),()) with
     |none=>none
     |some (.inl z3)=>
      some (z3.1,())
     |some (.inr z3)=>
      some (true,())
    else none
  else none
def vW (s:Int×Int×Bool×ah×List a6×List a6×Unit):Option (HF⊕((List a6×Unit)⊕Unit)):=
 bif s.2.2.1 then
  bif decide (0<=s.2.1)&&decide (s.2.1<(List.length s.2.2.2.2.2.1:Int)) then
   let t0:=(List.getD s.2.2.2.2.2.1 (Int.toNat s.2.1) (0,([],([],(([],([],())),([],([],(0,()))))))))
   match kc (t0,s.2.2.2.1,()) with
   |none=>none
   |some ar=>
    bif ar.1 then
     bif decide (0<=s.2.1)&&decide (s.2.1<(List.length s.2.2.2.2.2.1:Int)) then
      let t2:=(List.getD s.2.2.2.2.2.1 (Int.toNat s.2.1) (0,([],([],(([],([],())),([],([],(0,()))))))))
      bif (decide ((List.length s.2.2.2.2.1+List.length ([t2]:List a6))*112<=bm)) then
       let t3:List a6:=(s.2.2.2.2.1++([t2]:List a6))
       some (.inl (s.1,(i64.wrap (s.2.1+1)),s.2.2.2.1,t3,s.2.2.2.2.2.1,()))
      else none
     else none
    else
     some (.inl (s.1,(i64.wrap (s.2.1+1)),s.2.2.2.1,s.2.2.2.2.1,s.2.2.2.2.2.1,()))
  else none
 else
  some (.inr (.inl (s.2.2.2.2.1,())))
def ta (s:HF):Option (HF⊕((List a6×Unit)⊕Unit)):=
 let t0:=(decide (s.2.1<((List.length s.2.2.2.2.1):Int)))
 bif t0 then
  let t1:=(decide ((((List.length s.2.2.2.1):Int):Int)<s.1))
  vW (s.1,s.2.1,t1,s.2.2.1,s.2.2.2.1,s.2.2.2.2.1,())
 else
  vW (s.1,s.2.1,false,s.2.2.1,s.2.2.2.1,s.2.2.2.2.1,())
def wn:=bM ta
def tl (s:(List oH)×ah×Int×Unit):Option (List a6×Unit):=
 match CN (s.1,(i64.wrap (3*s.2.2.1)),()) with
 |none=>none
 |some aj=>
  match wn (s.2.2.1,0,s.2.1,[],aj.1,()) with
  |none=>none
  |some (.inl aH)=>
   some (aH.1,())
  |some (.inr aH)=>
   none
def O8 (cN:kY->Option (er×Unit)) (s:List ak×(List (List af))×Int×af×Bool×bN×ah×eg×List cX×Int×(List af)×Unit):Option (B6⊕(B7⊕Unit)):=
 bif s.2.2.2.2.1 then
  bif (decide ((List.length s.2.2.2.2.2.2.2.2.2.2.1+List.length ([s.2.2.2.1]:List af))*16<=bm)) then
   let t0:List af:=(s.2.2.2.2.2.2.2.2.2.2.1++([s.2.2.2.1]:List af))
   some (.inl (s.1,s.2.1,(i64.wrap (s.2.2.1+1)),s.2.2.2.2.2.1,s.2.2.2.2.2.2.1,s.2.2.2.2.2.2.2.1,s.2.2.2.2.2.2.2.2.1,s.2.2.2.2.2.2.2.2.2.1,t0,()))
  else none
 else
  some (.inl (s.1,s.2.1,(i64.wrap (s.2.2.1+1)),s.2.2.2.2.2.1,s.2.2.2.2.2.2.1,s.2.2.2.2.2.2.2.1,s.2.2.2.2.2.2.2.2.1,s.2.2.2.2.2.2.2.2.2.1,s.2.2.2.2.2.2.2.2.2.2.1,()))
def wz (cN:kY->Option (er×Unit)) (s:B6):Option (B6⊕(B7⊕Unit)):=
 bif decide ((0:Int)<(List.length s.2.1:Int)) then
  let t0:=(List.getD s.2.1 0 [])
  let t1:=(decide (s.2.2.1<((List.length t0):Int)))
  bif t1 then
   bif decide ((0:Int)<(List.length s.2.1:Int)) then
    let t2:=(List.getD s.2.1 0 [])
    bif decide (0<=s.2.2.1)&&decide (s.2.2.1<(List.length t2:Int)) then
     let t3:=(List.getD t2 (Int.toNat s.2.2.1) [])
     let t4:=(!(Op.bytesLess t3 s.2.2.2.2.1.1||decide ((t3:af)=s.2.2.2.2.1.1)))
     bif t4 then
      match xO (s.2.2.2.2.1,t3,()) with
      |none=>none
      |some fH=>
       O8 cN (s.1,s.2.1,s.2.2.1,t3,fH.1,s.2.2.2.1,s.2.2.2.2.1,s.2.2.2.2.2.1,s.2.2.2.2.2.2.1,s.2.2.2.2.2.2.2.1,s.2.2.2.2.2.2.2.2.1,())
     else
      O8 cN (s.1,s.2.1,s.2.2.1,t3,false,s.2.2.2.1,s.2.2.2.2.1,s.2.2.2.2.2.1,s.2.2.2.2.2.2.1,s.2.2.2.2.2.2.2.1,s.2.2.2.2.2.2.2.2.1,())
    else none
   else none
  else
   some (.inr (.inl (s.1,s.2.1,s.2.2.2.1,s.2.2.2.2.1,s.2.2.2.2.2.1,s.2.2.2.2.2.2.1,s.2.2.2.2.2.2.2.1,s.2.2.2.2.2.2.2.2.1,())))
 else none
def GC (cN:kY->Option (er×Unit)) (s:B6):Option (B7⊕Unit):=bM (wz cN) s
def tf (cN:kY->Option (er×Unit)) (s:Hu):Option (Hu⊕((bN×ah×eg×List cX×Int×List ak×List a6×(List af)×List Int×List dY×Unit)⊕Unit)):=
 let t0:Int:=((List.length s.2.2.2.2.2.2.2.2.2.2.1):Int)
 bif decide (s.2.2.1<t0) then
  bif decide (0<=s.2.2.1)&&decide (s.2.2.1<(List.length s.2.2.2.2.2.2.2.2.2.2.1:Int)) then
   let t1:=(List.getD s.2.2.2.2.2.2.2.2.2.2.1 (Int.toNat s.2.2.1) ([],([],())))
   bif (decide ((1:Int)<=(List.length s.2.1:Int))&&decide (((List.length s.2.1:Int):Int)<=(List.length s.2.1:Int))) then
    let t2:=(List.drop (Int.toNat 1) (List.take (Int.toNat (List.length s.2.1:Int)) s.2.1))
    match cN (s.2.2.2.1,s.1,t1,t2,s.2.2.2.2.2.1,()) with
    |none=>none
    |some bF=>
     match xc (bF.1.1,bF.1.2.1,()) with
     |none=>none
     |some cT=>
      bif (decide ((List.length s.2.2.2.2.2.2.2.2.2.2.2.2.1+List.length ([bF.1.2.1]:List Int))*8<=bm)) then
       let t5:List Int:=(s.2.2.2.2.2.2.2.2.2.2.2.2.1++([bF.1.2.1]:List Int))
       match pN (cT.1,()) with
       |none=>none
       |some gQ=>
        bif (decide ((List.length s.2.2.2.2.2.2.2.2.2.2.2.2.2.1+List.length ([gQ.1]:List dY))*32<=bm)) then
         let t7:List dY:=(s.2.2.2.2.2.2.2.2.2.2.2.2.2.1++([gQ.1]:List dY))
         some (.inl (s.1,s.2.1,(i64.wrap (s.2.2.1+1)),bF.1.1,s.2.2.2.2.1,s.2.2.2.2.2.1,s.2.2.2.2.2.2.1,s.2.2.2.2.2.2.2.1,s.2.2.2.2.2.2.2.2.1,s.2.2.2.2.2.2.2.2.2.1,s.2.2.2.2.2.2.2.2.2.2.1,s.2.2.2.2.2.2.2.2.2.2.2.1,t5,t7,()))
        else none
      else none
   else none
  else none
 else
  some (.inr (.inl (s.2.2.2.1,s.2.2.2.2.1,s.2.2.2.2.2.1,s.2.2.2.2.2.2.1,s.2.2.2.2.2.2.2.1,s.2.2.2.2.2.2.2.2.1,s.2.2.2.2.2.2.2.2.2.1,s.2.2.2.2.2.2.2.2.2.2.2.1,s.2.2.2.2.2.2.2.2.2.2.2.2.1,s.2.2.2.2.2.2.2.2.2.2.2.2.2.1,())))
def GD (cN:kY->Option (er×Unit)) (s:Hu):Option ((bN×ah×eg×List cX×Int×List ak×List a6×(List af)×List Int×List dY×Unit)⊕Unit):=bM (tf cN) s
def wA (cN:kY->Option (er×Unit)) (s:Hm):Option (Hm⊕((List cX×Int×n7×bN×Unit)⊕Unit)):=
 let t0:=(decide (s.1<((List.length s.2.2.2.2.2.2.2.1):Int)))
 bif t0 then
  bif decide (0<=s.1)&&decide (s.1<(List.length s.2.2.2.2.2.2.2.1:Int)) then
   let t1:=(List.getD s.2.2.2.2.2.2.2.1 (Int.toNat s.1) 0)
   match w1 (s.2.2.2.2.2.1,t1,()) with
   |none=>none
   |some aM=>
    some (.inl ((i64.wrap (s.1+1)),s.2.1,s.2.2.1,s.2.2.2.1,s.2.2.2.2.1,aM.1,s.2.2.2.2.2.2.1,s.2.2.2.2.2.2.2.1,s.2.2.2.2.2.2.2.2.1,s.2.2.2.2.2.2.2.2.2.1,()))
  else none
 else
  some (.inr (.inl (s.2.1,s.2.2.1,s.2.2.2.2.1,s.2.2.2.2.2.1,())))
def v6 (cN:kY->Option (er×Unit)) (s:Hm):Option ((List cX×Int×n7×bN×Unit)⊕Unit):=bM (wA cN) s
def th (cN:kY->Option (er×Unit)) (s:bN×List cX×Int×List ak×(List af)×List Int×List dY×List a6×Unit):Option (er×Unit):=
 match rI (s.1,(s.2.2.2.1,(s.2.2.2.2.1,(s.2.2.2.2.2.1,(s.2.2.2.2.2.2.1,(s.2.2.2.2.2.2.2.1,()))))),()) with
 |none=>none
 |some aj=>
  match v6 cN (0,s.2.1,s.2.2.1,s.2.2.2.1,aj.1,aj.1.1,s.2.2.2.2.1,s.2.2.2.2.2.1,s.2.2.2.2.2.2.1,s.2.2.2.2.2.2.2.1,()) with
  |none=>none
  |some (.inl aH)=>
   some ((aH.2.2.2.1,(aH.2.2.1.2.1,())),())
  |some (.inr aH)=>
   none
def AH (cN:kY->Option (er×Unit)) (s:Int×bN×ah×eg×List cX×Int×List ak×List a6×(List af)×List Int×List dY×Unit):Option (er×Unit):=
 bif decide (0<=s.1)&&decide (s.1<4) then
  bif (Nat.beq (Int.toNat s.1) 3) then
   match tl (s.2.2.2.1.2.1.2.2.2.1,s.2.2.1,5,()) with
   |none=>none
   |some aj=>
    th cN (s.2.1,s.2.2.2.2.1,s.2.2.2.2.2.1,s.2.2.2.2.2.2.1,s.2.2.2.2.2.2.2.2.1,s.2.2.2.2.2.2.2.2.2.1,s.2.2.2.2.2.2.2.2.2.2.1,aj.1,())
  else
   bif (Nat.beq (Int.toNat s.1) 2) then
    match tl (s.2.2.2.1.2.1.2.2.1,s.2.2.1,5,()) with
    |none=>none
    |some aj=>
     th cN (s.2.1,s.2.2.2.2.1,s.2.2.2.2.2.1,s.2.2.2.2.2.2.1,s.2.2.2.2.2.2.2.2.1,s.2.2.2.2.2.2.2.2.2.1,s.2.2.2.2.2.2.2.2.2.2.1,aj.1,())
   else
    bif (Nat.beq (Int.toNat s.1) 1) then
     match tl (s.2.2.2.1.2.1.2.1,s.2.2.1,5,()) with
     |none=>none
     |some aj=>
      th cN (s.2.1,s.2.2.2.2.1,s.2.2.2.2.2.1,s.2.2.2.2.2.2.1,s.2.2.2.2.2.2.2.2.1,s.2.2.2.2.2.2.2.2.2.1,s.2.2.2.2.2.2.2.2.2.2.1,aj.1,())
    else
     bif (Nat.beq (Int.toNat s.1) 0) then
      match tl (s.2.2.2.1.2.1.1,s.2.2.1,5,()) with
      |none=>none
      |some aj=>
       th cN (s.2.1,s.2.2.2.2.1,s.2.2.2.2.2.1,s.2.2.2.2.2.2.1,s.2.2.2.2.2.2.2.2.1,s.2.2.2.2.2.2.2.2.2.1,s.2.2.2.2.2.2.2.2.2.2.1,aj.1,())
     else none
 else none
def GB (cN:kY->Option (er×Unit)) (s:B7):Option (er×Unit):=
 let t0:=(decide ((((List.length s.2.1):Int):Int)=0))
 bif t0 then
  match Cy (s.1,s.2.2.2.1,()) with
  |none=>none
  |some ar=>
   match rI (s.2.2.1,(ar.1,(s.2.2.2.2.2.2.2.1,([],([],([],()))))),()) with
   |none=>none
   |some aM=>
    some ((aM.1.1,(aM.1.2.1,())),())
 else
  let t1:=(i64.wrap (((List.length s.2.2.2.2.2.2.2.1):Int)+1))
  bif (decide (0<=t1)&&decide (t1<=t1)&&decide (t1*8<=(bm:Int))) then
   match BD ((([]:List ak),(s.2.2.2.2.2.2.2.1,((List.replicate (Int.toNat t1) (0:Int)),(([]:List dY),(([]:List a6),()))))),s.2.2.2.1,()) with
   |none=>none
   |some aM=>
    match GD cN (s.1,s.2.1,0,s.2.2.1,s.2.2.2.1,s.2.2.2.2.1,s.2.2.2.2.2.1,s.2.2.2.2.2.2.1,[],[],aM.1,s.2.2.2.2.2.2.2.1,[],[],()) with
    |none=>none
    |some (.inl z3)=>
     let t4:=(!(aD.eqb ac z3.2.1 ([],([],()))))
     bif t4 then
      let t5:Int:=(Int.tmod ((List.length z3.2.1.1):Int) 3)
      AH cN ((i64.wrap (1+t5)),z3.1,z3.2.1,z3.2.2.1,z3.2.2.2.1,z3.2.2.2.2.1,z3.2.2.2.2.2.1,z3.2.2.2.2.2.2.1,z3.2.2.2.2.2.2.2.1,z3.2.2.2.2.2.2.2.2.1,z3.2.2.2.2.2.2.2.2.2.1,())
     else
      AH cN (0,z3.1,z3.2.1,z3.2.2.1,z3.2.2.2.1,z3.2.2.2.2.1,z3.2.2.2.2.2.1,z3.2.2.2.2.2.2.1,z3.2.2.2.2.2.2.2.1,z3.2.2.2.2.2.2.2.2.1,z3.2.2.2.2.2.2.2.2.2.1,())
    |some (.inr z3)=>
     none
  else none
def s9 (cN:kY->Option (er×Unit)) (s:kY):Option (er×Unit):=
 let t0:=(decide ((((List.length s.2.2.2.1):Int):Int)>0))
 bif t0 then
  match GC cN (s.2.1,s.2.2.2.1,0,s.1,s.2.2.1,s.2.2.2.2.1,[],0,[],()) with
  |none=>none
  |some (.inl aH)=>
   GB cN (aH.1,aH.2.1,aH.2.2.1,aH.2.2.2.1,aH.2.2.2.2.1,aH.2.2.2.2.2.1,aH.2.2.2.2.2.2.1,aH.2.2.2.2.2.2.2.1,())
  |some (.inr aH)=>
   none
 else
  GB cN (s.2.1,s.2.2.2.1,s.1,s.2.2.1,s.2.2.2.2.1,[],0,[],())
def wg:Nat->kY->Option (er×Unit)
 |0,_=>none
 |n+1,s=>s9 (wg n) s
def CA (s:kY):Option (er×Unit):=wg jV s
def CO (s:eg×Unit):Option (cy×Unit):=
 match xG (s.1.1,()) with
 |none=>none
 |some aj=>
  let t1:=i64.wrap (Int.tmod s.1.2.2.1 4)
  bif (decide (0<=t1)&&decide (t1<(List.length ([[],([([([97,47,98,47]:af),([98,47]:af),([99,47]:af)]:List af)]:List (List af)),([([([98,47]:af)]:List af),([([97,47,2]:af),([97,47,98,47]:af),([99,47]:af)]:List af)]:List (List af)),([([([97,47,98,47]:af),([98,47]:af)]:List af),([([97,47,98,47,2]:af),([99,47]:af),([100,47]:af)]:List af)]:List (List af))]:List (List (List af))):Int))) then
   let t2:=(List.getD ([[],([([([97,47,98,47]:af),([98,47]:af),([99,47]:af)]:List af)]:List (List af)),([([([98,47]:af)]:List af),([([97,47,2]:af),([97,47,98,47]:af),([99,47]:af)]:List af)]:List (List af)),([([([97,47,98,47]:af),([98,47]:af)]:List af),([([97,47,98,47,2]:af),([99,47]:af),([100,47]:af)]:List af)]:List (List af))]:List (List (List af))) (Int.toNat t1) [])
   match CA (([],()),aj.1,([],([],())),t2,s.1,()) with
   |none=>none
   |some bF=>
    let t4:=(IntKind.u8.wrap (Int.tdiv s.1.2.2.1 4))
    let t5:=i64.wrap (Int.tmod t4 4)
    let t6:=(IntKind.u8.wrap (Int.tdiv s.1.2.2.1 16))
    let t7:=i64.wrap (Int.tmod t6 3)
    let t8:=(IntKind.u8.wrap (Int.tdiv s.1.2.2.1 64))
    let t9:=i64.wrap (1+(i64.wrap t8))
    some ((bF.1.1,(bF.1.2.1,(((i64.wrap (2+t5)),((i64.wrap (2+t7)),(t9,()))),()))),())
  else none
def oN (s:fa):Option (Bool×Unit):=
 bif decide (s.2.1<=s.1) then
  some ((decide (s.1<=s.2.2.1)),())
 else
  some (false,())
def Ic (s:a6×Unit):Option (Bool×Unit):=
 match oN (((List.length s.1.2.1):Int),1,65535,()) with
 |none=>none
 |some aj=>
  bif aj.1 then
   let t1:=(decide ((((List.length s.1.2.2.1):Int):Int)<=64))
   bif t1 then
    match oN (s.1.2.2.2.2.2.2.1,0,1000000000,()) with
    |none=>none
    |some aM=>
     some (aM.1,())
   else
    some (false,())
  else
   some (false,())
def IZ (s:a6×Unit):Option (a6×Unit):=
 some ((s.1.1,(s.1.2.1,(s.1.2.2.1,(([],([],())),([],([],(s.1.2.2.2.2.2.2.1,()))))))),())
def H7 (s:a6×Unit):Option (Bool×Unit):=
 match oN (((List.length s.1.2.1):Int),1,65535,()) with
 |none=>none
 |some aj=>
  some (aj.1,())
def IX (s:a6×Unit):Option (a6×Unit):=
 some ((s.1.1,(s.1.2.1,([],(([],([],())),([],([],(0,()))))))),())
def xU (s:ah×Unit):Option (Bool×Unit):=
 match j0 (s.1,()) with
 |none=>none
 |some aj=>
  bif !aj.1 then
   let t1:Int:=(if (((List.length s.1.1):Int):Int)<((List.length s.1.2.1):Int) then ((List.length s.1.2.1):Int) else ((List.length s.1.1):Int))
   some ((decide (t1<=65535)),())
  else
   some (false,())
def PW (s:a6×Unit):Option (Bool×Unit):=
 match xU (s.1.2.2.2.1,()) with
 |none=>none
 |some aj=>
  some (aj.1,())
def H8 (s:a6×Unit):Option (a6×Unit):=
 some ((s.1.1,([],([],(s.1.2.2.2.1,([],([],(0,()))))))),())
def xM (s:ah):Option (Bool×Unit):=
 match oN (((List.length s.1):Int),1,200,()) with
 |none=>none
 |some aj=>
  bif aj.1 then
   match oN (((List.length s.2.1):Int),1,200,()) with
   |none=>none
   |some ar=>
    bif ar.1 then
     match sY (s.1,s.2.1,()) with
     |none=>none
     |some aM=>
      bif !aM.1 then
       match sY (s.2.1,s.1,()) with
       |none=>none
       |some bF=>
        some ((!bF.1),())
      else
       some (false,())
    else
     some (false,())
  else
   some (false,())
def PY (s:a6×Unit):Option (Bool×Unit):=
 match xM (s.1.2.2.2.2.1,s.1.2.2.2.2.2.1,()) with
 |none=>none
 |some aj=>
  some (aj.1,())
def H9 (s:a6×Unit):Option (a6×Unit):=
 some ((s.1.1,([],([],(([],([],())),(s.1.2.2.2.2.1,(s.1.2.2.2.2.2.1,(0,()))))))),())
def Pr (s:a6×Unit):Option (Bool×Unit):=
 match xM (s.1.2.2.2.2.1,s.1.2.2.2.2.2.1,()) with
 |none=>none
 |some aj=>
  some (aj.1,())
def PS (s:a6×Unit):Option (a6×Unit):=
 some ((s.1.1,([],([],(([],([],())),(s.1.2.2.2.2.1,(s.1.2.2.2.2.2.1,(0,()))))))),())
def Pw (s:a6×Unit):Option (Bool×Unit):=
 match xU (s.1.2.2.2.1,()) with
 |none=>none
 |some aj=>
  bif aj.1 then
   match oN (s.1.2.2.2.2.2.2.1,0,1000000000,()) with
   |none=>none
   |some ar=>
    some (ar.1,())
  else
   some (false,())
def P0 (s:a6×Unit):Option (a6×Unit):=
 some ((s.1.1,([],([],(s.1.2.2.2.1,([],([],(s.1.2.2.2.2.2.2.1,()))))))),())
def oh (s:a6×Unit):Option (Bool×Unit):=
 bif decide (s.1.1=1) then
  match Ic (s.1,()) with
  |none=>none
  |some aj=>
   bif aj.1 then
    match IZ (s.1,()) with
    |none=>none
    |some ar=>
     let t2:=(aD.eqb cQ ar.1 s.1)
     some (t2,())
   else
    some (false,())
 else
  bif decide (s.1.1=2) then
   match H7 (s.1,()) with
   |none=>none
   |some aj=>
    bif aj.1 then
     match IX (s.1,()) with
     |none=>none
     |some ar=>
      let t2:=(aD.eqb cQ ar.1 s.1)
      some (t2,())
    else
     some (false,())
  else
   bif decide (s.1.1=3) then
    match PW (s.1,()) with
    |none=>none
    |some aj=>
     bif aj.1 then
      match H8 (s.1,()) with
      |none=>none
      |some ar=>
       let t2:=(aD.eqb cQ ar.1 s.1)
       some (t2,())
     else
      some (false,())
   else
    bif decide (s.1.1=4) then
     match PY (s.1,()) with
     |none=>none
     |some aj=>
      bif aj.1 then
       match H9 (s.1,()) with
       |none=>none
       |some ar=>
        let t2:=(aD.eqb cQ ar.1 s.1)
        some (t2,())
      else
       some (false,())
    else
     bif decide (s.1.1=5) then
      match Pr (s.1,()) with
      |none=>none
      |some aj=>
       bif aj.1 then
        match PS (s.1,()) with
        |none=>none
        |some ar=>
         let t2:=(aD.eqb cQ ar.1 s.1)
         some (t2,())
       else
        some (false,())
     else
      bif decide (s.1.1=6) then
       match Pw (s.1,()) with
       |none=>none
       |some aj=>
        bif aj.1 then
         match P0 (s.1,()) with
         |none=>none
         |some ar=>
          let t2:=(aD.eqb cQ ar.1 s.1)
          some (t2,())
        else
         some (false,())
      else
       some (false,())
def sA (s:List ak×Unit):Option (List ak×Unit):=bif (decide ((List.length ([]:List ak)+List.length s.1)*40<=bm)) then some (s.1,()) else none
def EP (s:Int×List ak×List ak×Unit):Option xx:=yz 40 s
def Dd (s:List ak×ak×Unit):Option (List ak×Unit):=
 match tD (s.1,s.2.1.1,()) with
 |none=>none
 |some aj=>
  match sA (s.1,()) with
  |none=>none
  |some ar=>
   bif aj.2.1 then
    bif decide (0<=aj.1)&&decide (aj.1<(List.length ar.1:Int)) then
     some ((List.set ar.1 (Int.toNat aj.1) s.2.1),())
    else none
   else
    match EP (aj.1,ar.1,([s.2.1]:List ak),()) with
    |none=>none
    |some aM=>
     some (aM.2.1,())
def Ia (s:uo):Option (List ak×Unit):=
 match Dd (s.2.1,(s.1.2.1,(s.1.2.2.1,(s.1.2.2.2.2.2.2.1,()))),()) with
 |none=>none
 |some aj=>
  some (aj.1,())
def Bd (s:uv):Option jJ:=
 match j0 (s.2.1,()) with
 |none=>none
 |some aj=>
  bif aj.1 then
   some (0,0,())
  else
   match tD (s.1,s.2.1.1,()) with
   |none=>none
   |some ar=>
    let t2:=(!decide ((s.2.1.2.1:af)=[]))
    bif t2 then
     match tD (s.1,s.2.1.2.1,()) with
     |none=>none
     |some bF=>
      some (ar.1,bF.1,())
    else
     some (ar.1,((List.length s.1):Int),())
def ET (s:Int×Unit):Option (List ak×Unit):=
 bif decide (s.1<0) then
  none
 else
  let t0:=i64.wrap (0-0)
  let t1:=(decide (((i64.wrap (s.1-t0)):Int)>0))
  bif t1 then
   bif (decide (0<(i64.wrap (s.1-t0)))&&decide ((i64.wrap (s.1-t0))*40<=(bm:Int))) then
    bif (decide (((0:Int):Int)<=(List.length (List.replicate (Int.toNat (i64.wrap (s.1-t0))) (([]:af),(([]:af),((0:Int),())))):Int))) then
     let t2:=(List.take 0 (List.replicate (Int.toNat (i64.wrap (s.1-t0))) (([]:af),(([]:af),((0:Int),())))))
     some (t2,())
    else none
   else none
  else
   some ([],())
def oK (s:Qq):Option (Qq⊕(((List (List ak))×Int×Unit)⊕Unit)):=
 let t0:=decide (s.2.2.2.2.1<s.2.2.2.1)
 bif t0 then
  bif decide (0<=s.2.2.2.2.1)&&decide (s.2.2.2.2.1<(List.length s.2.2.1:Int)) then
   let t1:=(List.getD s.2.2.1 (Int.toNat s.2.2.2.2.1) [])
   let t2:=(i64.wrap (s.2.1+((List.length t1):Int)))
   bif decide (t2<0) then
    none
   else
    let t3:=i64.wrap (s.2.2.2.2.1+1)
    some (.inl (s.1,t2,s.2.2.1,s.2.2.2.1,t3,()))
  else none
 else
  some (.inr (.inl (s.1,s.2.1,())))
def MI:=bM oK
def oL (s:(List (List ak))×Int×Int×List ak×Unit):Option (((List (List ak))×Int×Int×List ak×Unit)⊕((List ak×Unit)⊕Unit)):=
 bif decide (s.2.2.1<s.2.1) then
  bif decide (0<=s.2.2.1)&&decide (s.2.2.1<(List.length s.1:Int)) then
   let t0:=(List.getD s.1 (Int.toNat s.2.2.1) [])
   bif decide ((List.length s.2.2.2.1+List.length t0)*40<=bm) then
    some (.inl (s.1,s.2.1,(i64.wrap (s.2.2.1+1)),(s.2.2.2.1++t0),()))
   else none
  else none
 else
  some (.inr (.inl (s.2.2.2.1,())))
def MJ:=bM oL
def EO (s:(List (List ak))×Unit):Option (List ak×Unit):=
 match MI (s.1,0,s.1,((List.length s.1):Int),0,()) with
 |none=>none
 |some (.inl z0)=>
  match ET (z0.2.1,()) with
  |none=>none
  |some ar=>
   match MJ (z0.1,((List.length z0.1):Int),0,ar.1,()) with
   |none=>none
   |some (.inl z2)=>
    some (z2.1,())
   |some (.inr z2)=>
    none
 |some (.inr z0)=>
  none
def ru (s:uv):Option (List ak×Unit):=
 match Bd (s.1,s.2.1,()) with
 |none=>none
 |some aj=>
  bif decide ((0:Int)<=aj.1)&&decide (aj.1<=(List.length s.1:Int)) then
   let t1:=(List.drop 0 (List.take (Int.toNat aj.1) s.1))
   bif (decide (0<=aj.2.1)&&decide (aj.2.1<=(List.length s.1:Int))&&decide (((List.length s.1:Int):Int)<=(List.length s.1:Int))) then
    let t2:=(List.drop (Int.toNat aj.2.1) (List.take (Int.toNat (List.length s.1:Int)) s.1))
    match EO (([t1,t2]:List (List ak)),()) with
    |none=>none
    |some bF=>
     some (bF.1,())
   else none
  else none
def Ky (s:Ck):Option (List ak×Unit):=
 match oo (s.2.1,()) with
 |none=>none
 |some aj=>
  match ru (s.1,aj.1,()) with
  |none=>none
  |some ar=>
   some (ar.1,())
def H5 (s:uo):Option (List ak×Unit):=
 match Ky (s.2.1,s.1.2.1,()) with
 |none=>none
 |some aj=>
  some (aj.1,())
def PU (s:uo):Option (List ak×Unit):=
 match ru (s.2.1,s.1.2.2.2.1,()) with
 |none=>none
 |some aj=>
  some (aj.1,())
def CE (s:uv):Option (List ak×Unit):=
 match Bd (s.1,s.2.1,()) with
 |none=>none
 |some aj=>
  bif (decide (0<=aj.1)&&decide (aj.1<=aj.2.1)&&decide (aj.2.1<=(List.length s.1:Int))&&decide (aj.2.1=aj.2.1)) then
   let t1:=(List.drop (Int.toNat aj.1) (List.take (Int.toNat aj.2.1) s.1))
   some (t1,())
  else none
def wK (s:QW):Option (QW⊕((List ak×Unit)⊕Unit)):=
 bif decide (s.2.2.2.1<s.2.2.1) then
  bif decide (0<=s.2.2.2.1)&&decide (s.2.2.2.1<(List.length s.2.2.2.2.1:Int)) then
   let t0:=(List.getD s.2.2.2.2.1 (Int.toNat s.2.2.2.1) ([],([],(0,()))))
   match rq (t0.1,s.1,s.2.1,()) with
   |none=>none
   |some ar=>
    bif decide (0<=s.2.2.2.1)&&decide (s.2.2.2.1<(List.length s.2.2.2.2.1:Int)) then
     let t2:=(List.set s.2.2.2.2.1 (Int.toNat s.2.2.2.1) (ar.1,(List.getD s.2.2.2.2.1 (Int.toNat s.2.2.2.1) ([],([],(0,())))).2))
     let t3:=i64.wrap (s.2.2.2.1+1)
     some (.inl (s.1,s.2.1,s.2.2.1,t3,t2,()))
    else none
  else none
 else
  some (.inr (.inl (s.2.2.2.2.1,())))
def IY:=bM wK
def C5 (s:List ak×af×af×Unit):Option (List ak×Unit):=
 match kN (s.2.1,()) with
 |none=>none
 |some aj=>
  match CE (s.1,aj.1,()) with
  |none=>none
  |some ar=>
   match sA (ar.1,()) with
   |none=>none
   |some aM=>
    match IY (s.2.1,s.2.2.1,((List.length aM.1):Int),0,aM.1,()) with
    |none=>none
    |some (.inl z3)=>
     some (z3.1,())
    |some (.inr z3)=>
     none
def O2 (s:p4):Option (p4⊕(p4⊕Unit)):=
 bif decide ((0:Int)<(List.length s.2.1:Int)) then
  let t0:=(List.getD s.2.1 0 ([],([],(0,()))))
  bif (decide ((List.length s.2.2.1+List.length ([t0]:List ak))*40<=bm)) then
   let t1:List ak:=(s.2.2.1++([t0]:List ak))
   bif (decide ((1:Int)<=(List.length s.2.1:Int))&&decide (((List.length s.2.1:Int):Int)<=(List.length s.2.1:Int))) then
    let t2:=(List.drop (Int.toNat 1) (List.take (Int.toNat (List.length s.2.1:Int)) s.2.1))
    some (.inl (s.1,t2,t1,()))
   else none
  else none
 else none
def At (s:List ak×List ak×Bool×List ak×Unit):Option (p4⊕(p4⊕Unit)):=
 bif s.2.2.1 then
  some (.inr (.inl (s.1,s.2.1,s.2.2.2.1,())))
 else
  bif decide ((0:Int)<(List.length s.1:Int)) then
   let t0:=(List.getD s.1 0 ([],([],(0,()))))
   bif decide ((0:Int)<(List.length s.2.1:Int)) then
    let t1:=(List.getD s.2.1 0 ([],([],(0,()))))
    bif (Op.bytesLess t0.1 t1.1) then
     bif decide ((0:Int)<(List.length s.1:Int)) then
      let t2:=(List.getD s.1 0 ([],([],(0,()))))
      bif (decide ((List.length s.2.2.2.1+List.length ([t2]:List ak))*40<=bm)) then
       let t3:List ak:=(s.2.2.2.1++([t2]:List ak))
       bif (decide ((1:Int)<=(List.length s.1:Int))&&decide (((List.length s.1:Int):Int)<=(List.length s.1:Int))) then
        let t4:=(List.drop (Int.toNat 1) (List.take (Int.toNat (List.length s.1:Int)) s.1))
        some (.inl (t4,s.2.1,t3,()))
       else none
      else none
     else none
    else
     bif decide ((0:Int)<(List.length s.1:Int)) then
      let t2:=(List.getD s.1 0 ([],([],(0,()))))
      bif decide ((0:Int)<(List.length s.2.1:Int)) then
       let t3:=(List.getD s.2.1 0 ([],([],(0,()))))
       bif decide ((t2.1:af)=t3.1) then
        bif (decide ((1:Int)<=(List.length s.1:Int))&&decide (((List.length s.1:Int):Int)<=(List.length s.1:Int))) then
         let t4:=(List.drop (Int.toNat 1) (List.take (Int.toNat (List.length s.1:Int)) s.1))
         O2 (t4,s.2.1,s.2.2.2.1,())
        else none
       else
        O2 (s.1,s.2.1,s.2.2.2.1,())
      else none
     else none
   else none
  else none
def wB (s:p4):Option (p4⊕(p4⊕Unit)):=
 let t0:=(decide ((((List.length s.1):Int):Int)=0))
 bif !t0 then
  let t1:=(decide ((((List.length s.2.1):Int):Int)=0))
  At (s.1,s.2.1,t1,s.2.2.1,())
 else
  At (s.1,s.2.1,true,s.2.2.1,())
def HY:=bM wB
def BG (s:xx):Option (List ak×Unit):=
 let t0:=(i64.wrap (((List.length s.1):Int)+((List.length s.2.1):Int)))
 bif (decide (0<=0)&&decide ((0:Int)<=t0)&&decide (t0*40<=(bm:Int))) then
  match HY (s.1,s.2.1,(List.replicate 0 (([]:af),(([]:af),((0:Int),())))),()) with
  |none=>none
  |some (.inl aH)=>
   bif decide ((List.length aH.2.2.1+List.length aH.1)*40<=bm) then
    bif (decide ((List.length (aH.2.2.1++aH.1)+List.length aH.2.1)*40<=bm)) then
     some (((aH.2.2.1++aH.1)++aH.2.1),())
    else none
   else none
  |some (.inr aH)=>
   none
 else none
def Av (s:uo):Option (List ak×Unit):=
 match kN (s.1.2.2.2.2.2.1,()) with
 |none=>none
 |some aj=>
  match ru (s.2.1,aj.1,()) with
  |none=>none
  |some ar=>
   match C5 (s.2.1,s.1.2.2.2.2.1,s.1.2.2.2.2.2.1,()) with
   |none=>none
   |some aM=>
    match BG (ar.1,aM.1,()) with
    |none=>none
    |some bF=>
     some (bF.1,())
def Gt (s:uo):Option (List ak×Unit):=
 match Av (s.1,s.2.1,()) with
 |none=>none
 |some aj=>
  match kN (s.1.2.2.2.2.1,()) with
  |none=>none
  |some ar=>
   match ru (aj.1,ar.1,()) with
   |none=>none
   |some aM=>
    some (aM.1,())
def An (s:Int×Int×a6×List ak×Unit):Option ((Int×Int×a6×List ak×Unit)⊕((List ak×Unit)⊕Unit)):=
 bif decide (s.2.1<s.1) then
  bif decide (0<=s.2.1)&&decide (s.2.1<(List.length s.2.2.2.1:Int)) then
   let t0:=(List.getD s.2.2.2.1 (Int.toNat s.2.1) ([],([],(0,()))))
   match pR (s.2.2.1.2.2.2.1,t0.1,()) with
   |none=>none
   |some ar=>
    bif ar.1 then
     bif decide (0<=s.2.1)&&decide (s.2.1<(List.length s.2.2.2.1:Int)) then
      let t2:=(List.set s.2.2.2.1 (Int.toNat s.2.1) ((List.getD s.2.2.2.1 (Int.toNat s.2.1) ([],([],(0,())))).1,((List.getD s.2.2.2.1 (Int.toNat s.2.1) ([],([],(0,())))).2.1,(s.2.2.1.2.2.2.2.2.2.1,(List.getD s.2.2.2.1 (Int.toNat s.2.1) ([],([],(0,())))).2.2.2))))
      some (.inl (s.1,(i64.wrap (s.2.1+1)),s.2.2.1,t2,()))
     else none
    else
     some (.inl (s.1,(i64.wrap (s.2.1+1)),s.2.2.1,s.2.2.2.1,()))
  else none
 else
  some (.inr (.inl (s.2.2.2.1,())))
def OX:=bM An
def Pu (s:uo):Option (List ak×Unit):=
 match sA (s.2.1,()) with
 |none=>none
 |some aj=>
  match OX (((List.length aj.1):Int),0,s.1,aj.1,()) with
  |none=>none
  |some (.inl aH)=>
   some (aH.1,())
  |some (.inr aH)=>
   none
def pK (s:List ak×a6×Unit):Option (List ak×Unit):=
 bif decide (s.2.1.1=1) then
  match Ia (s.2.1,s.1,()) with
  |none=>none
  |some aj=>
   some (aj.1,())
 else
  bif decide (s.2.1.1=2) then
   match H5 (s.2.1,s.1,()) with
   |none=>none
   |some aj=>
    some (aj.1,())
  else
   bif decide (s.2.1.1=3) then
    match PU (s.2.1,s.1,()) with
    |none=>none
    |some aj=>
     some (aj.1,())
   else
    bif decide (s.2.1.1=4) then
     match Gt (s.2.1,s.1,()) with
     |none=>none
     |some aj=>
      some (aj.1,())
    else
     bif decide (s.2.1.1=5) then
      match Av (s.2.1,s.1,()) with
      |none=>none
      |some aj=>
       some (aj.1,())
     else
      bif decide (s.2.1.1=6) then
       match Pu (s.2.1,s.1,()) with
       |none=>none
       |some aj=>
        some (aj.1,())
      else
       some (s.1,())
def VZ (s:List cX×List Int×List cX×Unit):Option ((List cX×List Int×List cX×Unit)⊕((List cX×List cX×Unit)⊕Unit)):=
 let t0:=(decide ((((List.length s.2.1):Int):Int)>0))
 bif t0 then
  let t1:=(i64.wrap (((List.length s.2.1):Int)-1))
  bif decide (0<=t1)&&decide (t1<(List.length s.2.1:Int)) then
   let t2:=(List.getD s.2.1 (Int.toNat t1) 0)
   let t3:=(i64.wrap (((List.length s.2.1):Int)-1))
   bif decide ((0:Int)<=t3)&&decide (t3<=(List.length s.2.1:Int)) then
    bif decide (0<=t2)&&decide (t2<(List.length s.2.2.1:Int)) then
     let t4:=(List.getD s.2.2.1 (Int.toNat t2) (false,(false,(0,(([],([],([],([],([],()))))),())))))
     let t5:=i64.wrap (t4.2.2.1-1)
     let t6:=(List.set s.2.2.1 (Int.toNat t2) ((List.getD s.2.2.1 (Int.toNat t2) (false,(false,(0,(([],([],([],([],([],()))))),()))))).1,((List.getD s.2.2.1 (Int.toNat t2) (false,(false,(0,(([],([],([],([],([],()))))),()))))).2.1,(t5,(List.getD s.2.2.1 (Int.toNat t2) (false,(false,(0,(([],([],([],([],([],()))))),()))))).2.2.2))))
     let t7:=(List.getD t6 (Int.toNat t2) (false,(false,(0,(([],([],([],([],([],()))))),())))))
     bif decide (t7.2.2.1>0) then
      some (.inl (s.1,(List.take (Int.toNat t3) s.2.1),t6,()))
     else
      let t8:=(List.getD t6 (Int.toNat t2) (false,(false,(0,(([],([],([],([],([],()))))),())))))
      bif (decide ((List.length (List.take (Int.toNat t3) s.2.1)+List.length t8.2.2.2.1.2.2.1)*8<=bm)) then
       let t9:=(List.take (Int.toNat t3) s.2.1++t8.2.2.2.1.2.2.1)
       let t10:=(List.set t6 (Int.toNat t2) (false,(false,(0,(([],([],([],([],([],()))))),())))))
       some (.inl (s.1,t9,t10,()))
      else none
    else none
   else none
  else none
 else
  some (.inr (.inl (s.1,s.2.2.1,())))
def V1:=bM VZ
def Kp (s:er):Option er:=
 match xa (s.1,s.2.1,()) with
 |none=>none
 |some aj=>
  bif !aj.1 then
   some (s.1,110,())
  else
   match J0 (s.1,()) with
   |none=>none
   |some ar=>
    match V1 ([],([s.2.1]:List Int),ar.1,()) with
    |none=>none
    |some (.inl z2)=>
     some ((z2.2.1,()),0,())
    |some (.inr z2)=>
     none
def adv (s:List a6×Unit):Option (List a6×Unit):=
 bif (decide (0<=0)&&decide ((0:Int)<=((List.length s.1):Int))&&decide ((((List.length s.1):Int):Int)<=(List.length s.1:Int))&&decide ((((List.length s.1):Int):Int)=((List.length s.1):Int))) then
  let t0:=(List.drop 0 (List.take (Int.toNat ((List.length s.1):Int)) s.1))
  some (t0,())
 else none
def KX (s:cy×a6×Unit):Option (cy×Int×Unit):=
 match oh (s.2.1,()) with
 |none=>none
 |some aj=>
  bif !aj.1 then
   some (s.1,50,())
  else
   match j9 (s.1.1,s.1.2.1,()) with
   |none=>none
   |some ar=>
    bif (!decide (ar.2.1=0)) then
     some (s.1,ar.2.1,())
    else
     match rK (ar.1,()) with
     |none=>none
     |some aM=>
      bif aM.1 then
       match pK (ar.1.1,s.2.1,()) with
       |none=>none
       |some bF=>
        match Dj (s.1.1,(bF.1,(ar.1.2.1,(ar.1.2.2.1,(ar.1.2.2.2.1,(ar.1.2.2.2.2.1,()))))),()) with
        |none=>none
        |some cT=>
         bif (!decide (cT.2.2.1=0)) then
          some (s.1,cT.2.2.1,())
         else
          match Kp (cT.1,s.1.2.1,()) with
          |none=>none
          |some fH=>
           bif (!decide (fH.2.1=0)) then
            some (s.1,fH.2.1,())
           else
            some ((fH.1,(cT.2.1,(s.1.2.2.1,()))),0,())
      else
       match adv (ar.1.2.2.2.2.1,()) with
       |none=>none
       |some bF=>
        bif (decide (0<List.length ([s.2.1]:List a6))&&decide ((List.length bF.1+List.length ([s.2.1]:List a6))*112<=bm)) then
         let t4:List a6:=(bF.1++([s.2.1]:List a6))
         match Dj (s.1.1,(ar.1.1,(ar.1.2.1,(ar.1.2.2.1,(ar.1.2.2.2.1,(t4,()))))),()) with
         |none=>none
         |some fH=>
          bif (!decide (fH.2.2.1=0)) then
           some (s.1,fH.2.2.1,())
          else
           match Kp (fH.1,s.1.2.1,()) with
           |none=>none
           |some gQ=>
            bif (!decide (gQ.2.1=0)) then
             some (s.1,gQ.2.1,())
            else
             some ((gQ.1,(fH.2.1,(s.1.2.2.1,()))),0,())
        else none
def Uk (s:Int×cy×bq×Unit):Option ((Int×cy×bq×Unit)⊕((Int×Unit)⊕Unit)):=
 match rK (s.2.2.1,()) with
 |none=>none
 |some aj=>
  bif !aj.1 then
   bif decide ((0:Int)<(List.length s.2.2.1.2.2.1:Int)) then
    match j9 (s.2.1.1,(List.getD s.2.2.1.2.2.1 0 0),()) with
    |none=>none
    |some ar=>
     some (.inl ((i64.wrap (s.1+1)),s.2.1,ar.1,()))
   else none
  else
   some (.inr (.inl (s.1,())))
def Um:=bM Uk
def JM (s:cy×Unit):Option (Int×Unit):=
 match j9 (s.1.1,s.1.2.1,()) with
 |none=>none
 |some aj=>
  match Um (1,s.1,aj.1,()) with
  |none=>none
  |some (.inl aH)=>
   some (aH.1,())
  |some (.inr aH)=>
   none
def JE (s:Unit):Option (cy×Unit):=
 match rI (([],()),(([(([97,47,120]:af),(([49]:af),(0,())))]:List ak),([],([],([],([],()))))),()) with
 |none=>none
 |some aj=>
  match rI (aj.1.1,([],([],([],([],([],()))))),()) with
  |none=>none
  |some ar=>
   match rI (ar.1.1,([],(([([98,47]:af)]:List af),(([aj.1.2.1,ar.1.2.1]:List Int),(([((0,(0,())),((0,(0,())),())),((0,(0,())),((0,(0,())),()))]:List dY),(([(4,([],([],(([],([],())),(([97,47]:af),(([99,47]:af),(0,())))))))]:List a6),()))))),()) with
   |none=>none
   |some aM=>
    match w1 (aM.1.1,aj.1.2.1,()) with
    |none=>none
    |some bF=>
     match w1 (bF.1,ar.1.2.1,()) with
     |none=>none
     |some cT=>
      some ((cT.1,(aM.1.2.1,((2,(2,(1,()))),()))),())
def o5 (s:Int×ah×List ah×bN×Int×Unit):Option (bN×Int×Int×ah×List ah×Unit):=
 some (s.2.2.2.1,s.2.2.2.2.1,s.1,s.2.1,s.2.2.1,())
def EM (s:List ah×Unit):Option (List ah×Unit):=bif (decide ((List.length ([]:List ah)+List.length s.1)*32<=bm)) then some (s.1,()) else none
def yM (s:ki):Option (ki⊕((Int×List ah×Unit)⊕(List ah×Unit))):=
 bif decide (s.2.1<s.1) then
  bif decide (0<=s.2.1)&&decide (s.2.1<(List.length s.2.2.1:Int)) then
   let t0:=(List.getD s.2.2.1 (Int.toNat s.2.1) ([],([],())))
   match j0 (t0,()) with
   |none=>none
   |some ar=>
    bif ar.1 then
     some (.inr (.inl (s.2.1,s.2.2.1,())))
    else
     some (.inl (s.1,(i64.wrap (s.2.1+1)),s.2.2.1,()))
  else none
 else
  some (.inr (.inr (s.2.2.1,())))
def LZ:=bM yM
def vc (s:List ah×Unit):Option (Int×List ah×Unit):=
 match LZ (((List.length s.1):Int),0,s.1,()) with
 |none=>none
 |some (.inl z0)=>
  some (z0.1,z0.2.1,())
 |some (.inr z0)=>
  some ((-1:Int),z0.1,())
def vb (s:ki):Option (ki⊕((Int×List ah×Unit)⊕Unit)):=
 let t0:=(decide (s.2.1<((List.length s.2.2.1):Int)))
 bif t0 then
  bif decide (0<=s.2.1)&&decide (s.2.1<(List.length s.2.2.1:Int)) then
   let t1:=(List.getD s.2.2.1 (Int.toNat s.2.1) ([],([],())))
   match j0 (t1,()) with
   |none=>none
   |some aM=>
    bif !aM.1 then
     bif decide (0<=s.1)&&decide (s.1<(List.length s.2.2.1:Int)) then
      some (.inl ((i64.wrap (s.1+1)),(i64.wrap (s.2.1+1)),(List.set s.2.2.1 (Int.toNat s.1) t1),()))
     else none
    else
     some (.inl (s.1,(i64.wrap (s.2.1+1)),s.2.2.1,()))
  else none
 else
  some (.inr (.inl (s.1,s.2.2.1,())))
def Me:=bM vb
def yV (s:List ah×Unit):Option (List ah×Unit):=
 match vc (s.1,()) with
 |none=>none
 |some aj=>
  bif decide (aj.1=(-1:Int)) then
   some (aj.2.1,())
  else
   match Me (aj.1,(i64.wrap (aj.1+1)),aj.2.1,()) with
   |none=>none
   |some (.inl aH)=>
    bif (decide (0<=aH.1)&&decide (aH.1<=(List.length aH.2.1:Int))&&decide (((List.length aH.2.1:Int):Int)<=(List.length aH.2.1:Int))) then
     let t2:=(List.take (Int.toNat aH.1) aH.2.1++List.replicate ((Int.toNat (List.length aH.2.1:Int))-(Int.toNat aH.1)) (([]:af),(([]:af),()))++List.drop ((Int.toNat aH.1)+((Int.toNat (List.length aH.2.1:Int))-(Int.toNat aH.1))) aH.2.1)
     bif decide ((0:Int)<=aH.1)&&decide (aH.1<=(List.length t2:Int)) then
      some ((List.take (Int.toNat aH.1) t2),())
     else none
    else none
   |some (.inr aH)=>
    none
end D
