import Derived.Test.YtmmmpanpbphkdaaGreatDoorEb
set_option linter.unusedVariables false
set_option maxRecDepth 100000
open Go Go.X Go.Proofs D
namespace D
theorem alZ:cM ve Tryz.f271 5 3:=w6 (λ_=>rfl)
theorem al0:cM ve Tryz.f271 7 4:=w6 (λ_=>rfl)
theorem alW:cM ve Tryz.f271 9 0:=cX (ax:=ahL) (b:=aie) (m:=[]) aif ai
theorem amb:bc ah4:=cy (F:=ve) (fn:=Tryz.f271) (m:=dt Tryz.f271 [9,1,3,5,7]) aif Tryz.func271 ⟨alW,alX,alY,alZ,al0,ai⟩
def ahh:aY:=⟨272,iA,eC,ahy⟩
theorem ay5:bc ahh:=cf (l:=[]) Tryz.func272 ai
def ahF:bK:=⟨⟨[(1,c4),(45,.ptr 0 .unit 0 [])],[.iter]⟩,.ret,⟨[(4,aK)],[]⟩,(.exit 2),⟨[],[]⟩⟩
def alP:aY:=⟨254,jA,iA,Td⟩
def IL:bn:=cr [ah4,ahh] [(2,ahF.go ahY 0)] 0
theorem ahX:cc bj (IL).Γ:=bV ⟨amb,ay5,ai⟩
theorem alF:cM IL Tryz.f254 0 0:=w6 (λ_=>rfl)
theorem alG:cM IL Tryz.f254 2 1:=cX (ax:=ahF) (b:=ahW) (m:=[]) ahX ai
theorem alV:cz bj alP:=pD (F:=IL) (fn:=Tryz.f254) (m:=dt Tryz.f254 [0,2]) ahX Tryz.func254 ⟨alF,alG,ai⟩
def aim:Shape:=jA
def ain:Shape:=iA
def S4:aY:=⟨254,aim,ain,WH⟩
theorem amq:cz bj S4:=UW (f:=254) (S:=aim) (Z:=ain) (g1:=Td) (g2:=A8) alV (aqp Tryz.lays153 aC Tryz.func254 aC)
theorem amr:bc S4:=amq.x aC
def VE:aY:=⟨241,⟨[(0,.ptr 0 Jx 0 [0])],EK⟩,⟨[(0,c4),(1,.dat (.int .u8))],EK⟩,XN⟩
def amV:bn:=cr [S4] [] 1
theorem amO:bc VE:=cy (F:=amV) (fn:=Tryz.f241) (m:=[]) (bV ⟨amr,ai⟩) Tryz.func241 ai
def VA:aY:=⟨224,⟨[(0,.ptr 0 Jx 0 [])],EK⟩,⟨[],EK⟩,Xv⟩
def amw:bn:=cr [SS,VE] [] 1
theorem amx:bc VA:=cy (F:=amw) (fn:=Tryz.f224) (m:=[]) (bV ⟨aic,amO,ai⟩) Tryz.func224 ai
def aha:aY:=⟨292,jA,iA,ahl⟩
def ahb:bn:=oe [HH]
theorem ayV:cM ahb Tryz.f292 1 0:=w6 (λ_=>rfl)
theorem ayZ:bc aha:=cy (F:=ahb) (fn:=Tryz.f292) (m:=dt Tryz.f292 [1]) (bV ⟨ag5,ai⟩) Tryz.func292 ⟨ayV,ai⟩
def ahj:aY:=⟨275,jA,⟨[(0,c4),(1,c4),(2,dC)],[]⟩,ahu⟩
theorem ay3:bc ahj:=cf (l:=[aha]) Tryz.func275 ⟨ayZ,ai⟩
def XX:aY:=⟨255,jA,⟨[(0,c4),(1,c4),(2,dC)],[]⟩,aa5⟩
theorem apD:bc XX:=cf (l:=[ahj]) Tryz.func255 ⟨ay3,ai⟩
def Ws:aY:=⟨258,⟨[(0,.dat (.int .i32))],[]⟩,eC,ZQ⟩
theorem anm:bc Ws:=cf (l:=[]) Tryz.func258 ai
def ahM:bK:=⟨⟨[(1,.fn 258 [] []),(2,dC),(10,.ptr 0 .unit 0 [])],[.iter]⟩,.ret,⟨[(6,aK)],[]⟩,(.exit 0),⟨[],[]⟩⟩
def ah5:aY:=⟨282,⟨[(0,c4),(1,.fn 258 [] []),(2,dC)],[]⟩,iA,V2⟩
def SU:bn:=cr [Ws] [(0,ahM.go y6 0)] 0
theorem ah9:cc bj (SU).Γ:=bV ⟨anm,ai⟩
theorem al1:cM SU Tryz.f282 0 0:=cX (ax:=ahM) (b:=aij) (m:=[]) ah9 ai
theorem amc:bc ah5:=cy (F:=SU) (fn:=Tryz.f282) (m:=dt Tryz.f282 [0]) ah9 Tryz.func282 ⟨al1,ai⟩
def ah3:aY:=⟨257,⟨[(0,c4),(1,.fn 258 [] [])],[]⟩,iA,VZ⟩
theorem ama:bc ah3:=cf (l:=[ah5]) Tryz.func257 ⟨amc,ai⟩
def LC:aY:=⟨244,hf,eC,NL⟩
theorem XM:bc LC:=cf (l:=[ah3]) Tryz.func244 ⟨ama,ai⟩
def WY:bK:=⟨hf,.ret,r3,(.exit 0),⟨[],[]⟩⟩
def MG:aY:=⟨242,hf,eC,N7⟩
def MR:bn:=cr [XX,LC] [(0,WY.go ZO 0)] 0
theorem ZN:cc bj (MR).Γ:=bV ⟨apD,XM,ai⟩
theorem ao2:cM MR Tryz.f242 0 0:=cX (ax:=WY) (b:=ZM) (m:=[]) ZN ai
theorem ZP:bc MG:=cy (F:=MR) (fn:=Tryz.f242) (m:=dt Tryz.f242 [0]) ZN Tryz.func242 ⟨ao2,ai⟩
def aho:bK:=dY wQ 0 hf
def aht:aY:=⟨277,wQ,hf,ahZ⟩
def SB:bn:=cr [] [(0,aho.go ul 0)] 0
theorem ahH:cc bj (SB).Γ:=bV ai
theorem alj:cM SB Tryz.f277 0 0:=cX (ax:=aho) (b:=ahG) (m:=[]) ahH ai
theorem alw:bc aht:=cy (F:=SB) (fn:=Tryz.f277) (m:=dt Tryz.f277 [0]) ahH Tryz.func277 ⟨alj,ai⟩
def ahw:bK:=dY wQ 0 hf
def ahC:aY:=⟨276,wQ,hf,aia⟩
def ol:bn:=cr [] [(0,ahw.go ahQ 0)] 0
theorem ahP:cc bj (ol).Γ:=bV ai
theorem alv:cM ol Tryz.f276 0 0:=cX (ax:=ahw) (b:=ahO) (m:=[]) ahP ai
theorem alC:bc ahC:=cy (F:=ol) (fn:=Tryz.f276) (m:=dt Tryz.f276 [0]) ahP Tryz.func276 ⟨alv,ai⟩
def amD:aY:=⟨256,jA,hf,abs⟩
def amW:bn:=oe [aht,ahC]
theorem ang:cz bj amD:=pD (F:=amW) (fn:=Tryz.f256) (m:=[]) (bV ⟨alw,alC,ai⟩) Tryz.func256 ai
def Xo:Shape:=jA
def Xp:Shape:=hf
def TC:aY:=⟨256,Xo,Xp,aaB⟩
theorem anW:cz bj TC:=UW (f:=256) (S:=Xo) (Z:=Xp) (g1:=abs) (g2:=AZ) ang (ajs Tryz.lays160 aC Tryz.func256 aC)
theorem anX:bc TC:=anW.x aC
end D
open Go Go.X Go.Proofs D
namespace D
def Xa:aY:=⟨243,hf,eC,aaP⟩
theorem ao3:bc Xa:=cf (l:=[TC]) Tryz.func243 ⟨anX,ai⟩
def sL:bK:=⟨⟨[(1,.ptr 0 hF 0 []),(86,dC)],wW⟩,.nrm,⟨[],[]⟩,.ret,z1⟩
def sK:bK:=⟨⟨[(1,.ptr 0 hF 0 []),(4,.ptr 1 hF 0 []),(66,dC)],EJ⟩,.nrm,⟨[],[]⟩,.ret,z1⟩
def sJ:bK:=⟨⟨[(1,.ptr 0 hF 0 []),(4,.ptr 1 hF 0 []),(35,dC)],EJ⟩,.nrm,⟨[],[]⟩,.ret,z1⟩
def sI:bK:=⟨⟨[(1,.ptr 0 hF 0 []),(4,.ptr 1 hF 0 []),(23,dC)],EJ⟩,.nrm,⟨[],[]⟩,.ret,z1⟩
def sM:bK:=⟨⟨[(1,.ptr 0 hF 0 []),(4,.ptr 1 hF 0 []),(22,dC)],EJ⟩,.nrm,⟨[],[]⟩,.ret,z1⟩
def we:aY:=⟨225,EZ,⟨[(0,c4),(1,aK)],[]⟩,acO⟩
def kJ:bn:=oe [LC,MG,Xa]
def oJ:lC:=[(100010,sL.go vL 0),(100008,sK.go ta 0),(100006,sJ.go qX 0),(100004,sI.go vK 0),(300003,sM.go tb 0)]
theorem aml (d:sL.S.ty.den): @Eq (O sL.Out) ((gN kJ oJ (eY (b4 Tryz.f225) 100010) 0 (sL.S.enc d)).bind λ(e,st)=>sL.out (kJ).m e st).val (vL d):=aC
theorem amj (d:sK.S.ty.den): @Eq (O sK.Out) ((gN kJ oJ (eY (b4 Tryz.f225) 100008) 0 (sK.S.enc d)).bind λ(e,st)=>sK.out (kJ).m e st).val (ta d):=aC
theorem amh (d:sJ.S.ty.den): @Eq (O sJ.Out) ((gN kJ oJ (eY (b4 Tryz.f225) 100006) 0 (sJ.S.enc d)).bind λ(e,st)=>sJ.out (kJ).m e st).val (qX d):=aC
theorem amf (d:sI.S.ty.den): @Eq (O sI.Out) ((gN kJ oJ (eY (b4 Tryz.f225) 100004) 0 (sI.S.enc d)).bind λ(e,st)=>sI.out (kJ).m e st).val (vK d):=aC
theorem amn (d:sM.S.ty.den): @Eq (O sM.Out) ((gN kJ oJ (eY (b4 Tryz.f225) 300003) 0 (sM.S.enc d)).bind λ(e,st)=>sM.out (kJ).m e st).val (tb d):=aC
theorem arq (d:(we).S.ty.den):(sr kJ oJ Tryz.f225 (we).S (we).Z d).val=(we).g d:=aC
theorem zo:cc bj (kJ).Γ:=bV ⟨XM,ZP,ao3,ai⟩
theorem amm:jL bj kJ Tryz.f225.ntmps (sL.go vL 0) (eY (b4 Tryz.f225) 100010):=
  lT eA zo eO (ax:=sL) (k:=0) (f:=vL) (C:=oJ) (l:=[]) (m:=[]) aC ai aC ai aC (eS _ aC) aml
theorem amk:jL bj kJ Tryz.f225.ntmps (sK.go ta 0) (eY (b4 Tryz.f225) 100008):=
  lT eA zo eO (ax:=sK) (k:=0) (f:=ta) (C:=oJ) (l:=[]) (m:=[(sL.go vL 0,eY (b4 Tryz.f225) 100010)]) aC ai aC ⟨amm,ai⟩ aC (eS _ aC) amj
theorem ami:jL bj kJ Tryz.f225.ntmps (sJ.go qX 0) (eY (b4 Tryz.f225) 100006):=
  lT eA zo eO (ax:=sJ) (k:=0) (f:=qX) (C:=oJ) (l:=[]) (m:=[(sK.go ta 0,eY (b4 Tryz.f225) 100008)]) aC ai aC ⟨amk,ai⟩ aC (eS _ aC) amh
theorem amg:jL bj kJ Tryz.f225.ntmps (sI.go vK 0) (eY (b4 Tryz.f225) 100004):=
  lT eA zo eO (ax:=sI) (k:=0) (f:=vK) (C:=oJ) (l:=[]) (m:=[(sJ.go qX 0,eY (b4 Tryz.f225) 100006)]) aC ai aC ⟨ami,ai⟩ aC (eS _ aC) amf
theorem amo:jL bj kJ Tryz.f225.ntmps (sM.go tb 0) (eY (b4 Tryz.f225) 300003):=
  lT eA zo eO (ax:=sM) (k:=0) (f:=tb) (C:=oJ) (l:=[]) (m:=[(sI.go vK 0,eY (b4 Tryz.f225) 100004)]) aC ai aC ⟨amg,ai⟩ aC (eS _ aC) amn
theorem ars:cz bj we:=
  At (C:=oJ) (F:=kJ) eA zo eO (fn:=Tryz.f225) (l:=[]) (m:=[(sM.go tb 0,eY (b4 Tryz.f225) 300003)]) Tryz.func225 aC aC aC ai aC ⟨amo,ai⟩ (eS _ aC) aC arq
theorem art:bc we:=(ars).x aC
def Ke:aY:=⟨191,hf,⟨[(0,.dat hF),(1,aK)],[]⟩,po⟩
theorem Mt:bc Ke:=cf (l:=[VA,we]) Tryz.func191 ⟨amx,art,ai⟩
def YI:aY:=⟨190,⟨[(0,aK),(1,aK),(2,.ptr 0 .opq 0 []),(3,.ptr 1 eJ 0 [])],[.box 242 .opq (.fn 189 [] []),.box 95 eJ mN]⟩,⟨[],[.box 242 .opq (.fn 189 [] []),.box 95 eJ mN]⟩,zC⟩
def apg:bn:=cr [MF,Tk] [] 2
theorem apu:bc YI:=cy (F:=apg) (fn:=Tryz.f190) (m:=[]) (bV ⟨ZL,Wn,ai⟩) Tryz.func190 ai
def ZV:aY:=⟨226,hf,iA,F7⟩
theorem aqV:bc ZV:=cf (l:=[MG,Ke]) Tryz.func226 ⟨ZP,Mt,ai⟩
def YK:aY:=⟨192,jA,eC,Aw⟩
theorem apw:bc YK:=cf (l:=[ZV]) Tryz.func192 ⟨aqV,ai⟩
def WJ:aY:=⟨223,E0,uo,Kz⟩
theorem an8:bc WJ:=cf (l:=[Ke]) Tryz.func223 ⟨Mt,ai⟩
def V3:bK:=dY ⟨[(2,.ptr 0 iX 0 []),(3,.ptr 1 iX 0 []),(7,.dat (.list bx)),(8,aK),(9,aK)],EO⟩ 0 ⟨[(2,.ptr 0 iX 0 []),(3,.ptr 1 iX 0 [])],EO⟩
def W9:aY:=⟨188,uk,uo,Fp⟩
def LN:bn:=cr [WJ] [(0,V3.go Ls 0)] 0
theorem XH:cc bj (LN).Γ:=bV ⟨an8,ai⟩
theorem an9:cM LN Tryz.f188 0 0:=cX (ax:=V3) (b:=rx) (m:=[]) XH ai
theorem aon:bc W9:=cy (F:=LN) (fn:=Tryz.f188) (m:=dt Tryz.f188 [0]) XH Tryz.func188 ⟨an9,ai⟩
def Zw:bK:=dY ⟨[(1,.ptr 0 et 0 []),(2,.ptr 1 eJ 0 []),(3,.ptr 2 eJ 0 []),(5,.ptr 3 .opq 0 []),(35,.dat (.list eJ)),(36,aK),(37,aK)],Uo⟩ 0 ⟨[(1,.ptr 0 et 0 []),(2,.ptr 1 eJ 0 []),(3,.ptr 2 eJ 0 []),(5,.ptr 3 .opq 0 [])],Uo⟩
def Zx:bK:=dY ⟨[(2,.ptr 0 eJ 0 []),(3,.ptr 1 eJ 0 []),(5,.ptr 2 .opq 0 []),(8,.fn 190 [] [(.ptr 2 .opq 0 []),(.ptr 1 eJ 0 [])]),(62,.dat (.list dw)),(63,aK),(64,aK)],[.box 95 eJ mN,.box 95 eJ mN,.box 242 .opq (.fn 189 [] [])]⟩ 2 ⟨[(2,.ptr 0 eJ 0 []),(3,.ptr 1 eJ 0 [])],[.box 95 eJ mN,.box 95 eJ mN]⟩
def aaG:aY:=⟨149,⟨[(0,.dat et)],[]⟩,wN,uD⟩
def Fl:bn:=cr [MF,Tk,Ke,YI,YK,W9] [(0,Zw.go NJ 0),(2,Zx.go NK 0)] 0
theorem NI:cc bj (Fl).Γ:=bV ⟨ZL,Wn,Mt,apu,apw,aon,ai⟩
theorem aqT:cM Fl Tryz.f149 0 0:=cX (ax:=Zw) (b:=Ex) (m:=[]) NI ai
theorem aqU:cM Fl Tryz.f149 2 1:=cX (ax:=Zx) (b:=tw) (m:=[]) NI ai
theorem arn:bc aaG:=cy (F:=Fl) (fn:=Tryz.f149) (m:=dt Tryz.f149 [0,2]) NI Tryz.func149 ⟨aqT,aqU,ai⟩
def yJ:bK:=⟨⟨[(3,aK),(4,.ptr 0 dk 0 []),(9,.ptr 1 et 0 []),(11,aK),(39,.own ac 2),(40,aK),(41,aK)],[.box 32 dk (.dat dk),.box 85 et (.dat et),.arr 39 ac false]⟩,.ret,⟨[(8,aK)],[]⟩,(.exit 0),⟨[(11,aK)],[]⟩⟩
def LL:aY:=⟨91,yY,y0,wv⟩
def DD (fR:(bB×Int×aL×Int×H)->O (Int×H)):bn:=cr [tv,acl,tp,(Ju fR),YJ,aaG] [(0,yJ.go (DJ fR) 0)] 0
theorem anh (fR:(bB×Int×aL×Int×H)->O (Int×H)) (d:yJ.S.ty.den): @Eq (O (yJ.S.ty.den⊕yJ.Out)) (yJ.body (DD fR) (hk (b4 Tryz.f91) 0) 0 d).val (io fR d):=aC
theorem apb (fR:(bB×Int×aL×Int×H)->O (Int×H)) (d:yY.ty.den): @Eq (O y0.ty.den) (l9 (DD fR) Tryz.f91 yY y0 d).val (k4 fR d):=aC
theorem Yl (fR:(bB×Int×aL×Int×H)->O (Int×H)) (zl:cz bj (Ju fR)):cc bj (DD fR).Γ:=bV ⟨zp,ZK,zi,(zl.x aC),apv,arn,ai⟩
theorem an1 (fR:(bB×Int×aL×Int×H)->O (Int×H)) (zl:cz bj (Ju fR)):hl bj (DD fR) Tryz.f91.ntmps 0 (hk (b4 Tryz.f91) 0):=
  rP eA (Yl fR zl) eO (ax:=yJ) (f:=DJ fR) (b:=io fR) (m:=[]) (λ_=>rfl) aC aC ai aC (eS _ aC) (anh fR)
theorem amu (fR:(bB×Int×aL×Int×H)->O (Int×H)) (zl:cz bj (Ju fR)):cz bj ⟨91,yY,y0,k4 fR⟩:=
  rO (F:=(DD fR)) eA (Yl fR zl) eO (fn:=Tryz.f91) (m:=dt Tryz.f91 [0]) Tryz.func91 aC aC aC ⟨an1 fR zl,ai⟩ (eS _ aC) aC (apb fR)
theorem ais: ∀n,cz bj ⟨91,yY,y0,kI n⟩
  |0=>AR
  |n+1=>amu _ (ais n)
theorem apc:cz bj LL:=ais jf
theorem apd:bc LL:=(apc).x aC
def DN:Shape:=E1
def DP:Shape:=eC
def MP:aY:=⟨31,DN,DP,wA⟩
def api:bn:=oe [MQ,LL]
theorem Zs:cz bj MP:=pD (F:=api) (fn:=Tryz.f31) (m:=[]) (bV ⟨Zt,apd,ai⟩) Tryz.func31 ai
theorem at8:bc MP:=Zs.x aC
def sO:bK:=⟨⟨[(1,.ptr 0 ht 0 []),(2,.ptr 1 bx 0 []),(3,dC),(4,aK),(7,dC),(8,aK),(10,.own bx 2),(16,.ptr 3 ht 0 []),(18,dC)],[.box 36 ht (.dat ht),.box 58 bx (.dat bx),.arr 58 bx false,.box 36 ht (.dat ht)]⟩,.ret,eC,(.exit 90000009),⟨[],[]⟩⟩
def JD:Shape:=⟨[],[]⟩
def JE:Shape:=eC
def Tx:aY:=⟨21,JD,JE,M7⟩
def yM (fy:(cQ×N×H)->O ql) (fB:(bi×H)->O (cQ×Int×H)) (fL:(cQ×bH×H)->O (cQ×Int×H)) (fA:(cQ×H)->O (Int×H)) (fJ:H->O (cQ×H)) (fM:(cQ×aL×H)->O (Int×aj×H)) (fK:(aj×aj×H)->O (Bool×H)) (fx:(cQ×H)->O (Bool×H)):bn:=oe [⟨81,wm,wq,fy⟩,⟨40,Ep,Es,fB⟩,⟨15,Eo,Er,fL⟩,⟨17,DF,DG,fA⟩,⟨80,DE,rt,fJ⟩,⟨27,pu,wc,fM⟩,⟨29,DM,DO,fK⟩,⟨31,DN,DP,fx⟩]
def JA (fy:(cQ×N×H)->O ql) (fB:(bi×H)->O (cQ×Int×H)) (fL:(cQ×bH×H)->O (cQ×Int×H)) (fA:(cQ×H)->O (Int×H)) (fJ:H->O (cQ×H)) (fM:(cQ×aL×H)->O (Int×aj×H)) (fK:(aj×aj×H)->O (Bool×H)) (fx:(cQ×H)->O (Bool×H)):lC:=[(9,sO.go (o5 fy fB fL fA fJ fM fK fx) 0)]
theorem amJ (fy:(cQ×N×H)->O ql) (fB:(bi×H)->O (cQ×Int×H)) (fL:(cQ×bH×H)->O (cQ×Int×H)) (fA:(cQ×H)->O (Int×H)) (fJ:H->O (cQ×H)) (fM:(cQ×aL×H)->O (Int×aj×H)) (fK:(aj×aj×H)->O (Bool×H)) (fx:(cQ×H)->O (Bool×H)) (d:sO.S.ty.den): @Eq (O sO.Out) ((gN (yM fy fB fL fA fJ fM fK fx) (JA fy fB fL fA fJ fM fK fx) (eY (b4 Tryz.f21) 9) 0 (sO.S.enc d)).bind λ(e,st)=>sO.out (yM fy fB fL fA fJ fM fK fx).m e st).val (o5 fy fB fL fA fJ fM fK fx d):=aC
theorem aoa (fy:(cQ×N×H)->O ql) (fB:(bi×H)->O (cQ×Int×H)) (fL:(cQ×bH×H)->O (cQ×Int×H)) (fA:(cQ×H)->O (Int×H)) (fJ:H->O (cQ×H)) (fM:(cQ×aL×H)->O (Int×aj×H)) (fK:(aj×aj×H)->O (Bool×H)) (fx:(cQ×H)->O (Bool×H)) (d:JD.ty.den): @Eq (O JE.ty.den) (sr (yM fy fB fL fA fJ fM fK fx) (JA fy fB fL fA fJ fM fK fx) Tryz.f21 JD JE d).val (Te fy fB fL fA fJ fM fK fx d):=aC
theorem Xr (fy:(cQ×N×H)->O ql) (zw:cz bj ⟨81,wm,wq,fy⟩) (fB:(bi×H)->O (cQ×Int×H)) (zy:cz bj ⟨40,Ep,Es,fB⟩) (fL:(cQ×bH×H)->O (cQ×Int×H)) (zv:cz bj ⟨15,Eo,Er,fL⟩) (fA:(cQ×H)->O (Int×H)) (zx:cz bj ⟨17,DF,DG,fA⟩) (fJ:H->O (cQ×H)) (zt:cz bj ⟨80,DE,rt,fJ⟩) (fM:(cQ×aL×H)->O (Int×aj×H)) (zz:cz bj ⟨27,pu,wc,fM⟩) (fK:(aj×aj×H)->O (Bool×H)) (zu:cz bj ⟨29,DM,DO,fK⟩) (fx:(cQ×H)->O (Bool×H)) (zA:cz bj ⟨31,DN,DP,fx⟩):cc bj (yM fy fB fL fA fJ fM fK fx).Γ:=bV ⟨(zw.x aC),(zy.x aC),(zv.x aC),(zx.x aC),(zt.x aC),(zz.x aC),(zu.x aC),(zA.x aC),ai⟩
theorem amK (fy:(cQ×N×H)->O ql) (zw:cz bj ⟨81,wm,wq,fy⟩) (fB:(bi×H)->O (cQ×Int×H)) (zy:cz bj ⟨40,Ep,Es,fB⟩) (fL:(cQ×bH×H)->O (cQ×Int×H)) (zv:cz bj ⟨15,Eo,Er,fL⟩) (fA:(cQ×H)->O (Int×H)) (zx:cz bj ⟨17,DF,DG,fA⟩) (fJ:H->O (cQ×H)) (zt:cz bj ⟨80,DE,rt,fJ⟩) (fM:(cQ×aL×H)->O (Int×aj×H)) (zz:cz bj ⟨27,pu,wc,fM⟩) (fK:(aj×aj×H)->O (Bool×H)) (zu:cz bj ⟨29,DM,DO,fK⟩) (fx:(cQ×H)->O (Bool×H)) (zA:cz bj ⟨31,DN,DP,fx⟩):jL bj (yM fy fB fL fA fJ fM fK fx) Tryz.f21.ntmps (sO.go (o5 fy fB fL fA fJ fM fK fx) 0) (eY (b4 Tryz.f21) 9):=
  lT eA (Xr fy zw fB zy fL zv fA zx fJ zt fM zz fK zu fx zA) eO (ax:=sO) (k:=0) (f:=o5 fy fB fL fA fJ fM fK fx) (C:=(JA fy fB fL fA fJ fM fK fx)) (l:=[]) (m:=[]) aC ai aC ai aC (eS _ aC) (amJ fy fB fL fA fJ fM fK fx)
theorem al7 (fy:(cQ×N×H)->O ql) (zw:cz bj ⟨81,wm,wq,fy⟩) (fB:(bi×H)->O (cQ×Int×H)) (zy:cz bj ⟨40,Ep,Es,fB⟩) (fL:(cQ×bH×H)->O (cQ×Int×H)) (zv:cz bj ⟨15,Eo,Er,fL⟩) (fA:(cQ×H)->O (Int×H)) (zx:cz bj ⟨17,DF,DG,fA⟩) (fJ:H->O (cQ×H)) (zt:cz bj ⟨80,DE,rt,fJ⟩) (fM:(cQ×aL×H)->O (Int×aj×H)) (zz:cz bj ⟨27,pu,wc,fM⟩) (fK:(aj×aj×H)->O (Bool×H)) (zu:cz bj ⟨29,DM,DO,fK⟩) (fx:(cQ×H)->O (Bool×H)) (zA:cz bj ⟨31,DN,DP,fx⟩):cz bj ⟨21,JD,JE,Te fy fB fL fA fJ fM fK fx⟩:=
  At (C:=(JA fy fB fL fA fJ fM fK fx)) (F:=(yM fy fB fL fA fJ fM fK fx)) eA (Xr fy zw fB zy fL zv fA zx fJ zt fM zz fK zu fx zA) eO (fn:=Tryz.f21) (l:=[]) (m:=[(sO.go (o5 fy fB fL fA fJ fM fK fx) 0,eY (b4 Tryz.f21) 9)]) Tryz.func21 aC aC aC ai aC ⟨amK fy zw fB zy fL zv fA zx fJ zt fM zz fK zu fx zA,ai⟩ (eS _ aC) aC (aoa fy fB fL fA fJ fM fK fx)
theorem aob:cz bj Tx:=al7 Gy asa Pa asb un aa7 NX apa NG aoZ ll aaE wy Y8 wA Zs
theorem aoc:bc Tx:=(aob).x aC
end D
open Go Go.X Go.Proofs D
namespace D
end D
open Go Go.X Go.Proofs D
namespace D
def VF:bK:=⟨⟨[(1,.ptr 0 dk 0 []),(2,.ptr 1 (.list (.int .i64)) 0 []),(7,.dat (.list (.int .i64))),(8,aK),(9,aK)],uq⟩,.ret,⟨[(4,dC)],uq⟩,(.exit 0),⟨[],uq⟩⟩
def WM:aY:=⟨97,⟨[(0,.dat (.list (.int .i64))),(1,.ptr 0 dk 0 []),(2,.ptr 1 (.list (.int .i64)) 0 [])],uq⟩,⟨[(0,dC)],uq⟩,wd⟩
def TE:bn:=cr [wa] [(0,VF.go TP 3)] 3
theorem Xw:cc bj (TE).Γ:=bV ⟨zf,ai⟩
theorem ann:cM TE Tryz.f97 0 0:=cX (ax:=VF) (b:=Dt) (m:=[]) Xw ai
theorem aof:bc WM:=cy (F:=TE) (fn:=Tryz.f97) (m:=dt Tryz.f97 [0]) Xw Tryz.func97 ⟨ann,ai⟩
def yN:Shape:=⟨[(0,aK),(1,.ptr 0 dk 0 []),(2,.ptr 1 (.list (.int .i64)) 0 []),(3,.ptr 2 .bool 0 []),(4,.ptr 3 .opq 0 []),(5,.ptr 4 .opq 0 [])],ER⟩
def yO:Shape:=⟨[],ER⟩
def Ji (gF:(Int×bB×Bool×ct×Int×H)->O (bB×Bool×ct×Int×H)):aY:=⟨154,yN,yO,gF⟩
def WN:aY:=⟨100,⟨[(0,aK),(1,.ptr 0 (.int .i64) 0 [])],E2⟩,⟨[],E2⟩,Nf⟩
def an6:bn:=cr [] [] 1
theorem aog:bc WN:=cy (F:=an6) (fn:=Tryz.f100) (m:=[]) (bV ai) Tryz.func100 ai
def yy:bK:=dY ⟨[(0,aK),(2,.ptr 1 (.list (.int .i64)) 0 []),(4,.ptr 3 .opq 0 []),(5,.ptr 4 .opq 0 []),(34,.dat (.list (.int .i64))),(35,aK),(36,aK)],ER⟩ 0 ⟨[(0,aK),(2,.ptr 1 (.list (.int .i64)) 0 []),(5,.ptr 4 .opq 0 [])],ER⟩
def Tz:aY:=⟨154,yN,yO,Ns⟩
def Dr (gF:(Int×bB×Bool×ct×Int×H)->O (bB×Bool×ct×Int×H)):bn:=cr [wa,(Ji gF),WN] [(0,yy.go (JG gF) 7)] 7
theorem amy (gF:(Int×bB×Bool×ct×Int×H)->O (bB×Bool×ct×Int×H)) (d:yy.S.ty.den): @Eq (O (yy.S.ty.den⊕yy.Out)) (yy.body (Dr gF) (hk (b4 Tryz.f154) 0) 0 d).val (yQ gF d):=aC
theorem aoh (gF:(Int×bB×Bool×ct×Int×H)->O (bB×Bool×ct×Int×H)) (d:yN.ty.den): @Eq (O yO.ty.den) (l9 (Dr gF) Tryz.f154 yN yO d).val (vI gF d):=aC
theorem Xx (gF:(Int×bB×Bool×ct×Int×H)->O (bB×Bool×ct×Int×H)) (y5:cz bj (Ji gF)):cc bj (Dr gF).Γ:=bV ⟨zf,(y5.x aC),aog,ai⟩
theorem ano (gF:(Int×bB×Bool×ct×Int×H)->O (bB×Bool×ct×Int×H)) (y5:cz bj (Ji gF)):hl bj (Dr gF) Tryz.f154.ntmps 0 (hk (b4 Tryz.f154) 0):=
  rP eA (Xx gF y5) eO (ax:=yy) (f:=JG gF) (b:=yQ gF) (m:=[]) (λ_=>rfl) aC aC ai aC (eS _ aC) (amy gF)
theorem al8 (gF:(Int×bB×Bool×ct×Int×H)->O (bB×Bool×ct×Int×H)) (y5:cz bj (Ji gF)):cz bj ⟨154,yN,yO,vI gF⟩:=
  rO (F:=(Dr gF)) eA (Xx gF y5) eO (fn:=Tryz.f154) (m:=dt Tryz.f154 [0]) Tryz.func154 aC aC aC ⟨ano gF y5,ai⟩ (eS _ aC) aC (aoh gF)
theorem aib: ∀n,cz bj ⟨154,yN,yO,sU n⟩
  |0=>AR
  |n+1=>al8 _ (aib n)
theorem aoi:cz bj Tz:=aib jf
theorem aoj:bc Tz:=(aoi).x aC
def W1:bK:=dY ⟨[(8,.ptr 1 .bool 0 []),(9,.ptr 2 .opq 0 []),(17,.dat (.list (.int .i64))),(18,aK),(19,aK)],[.box 3 (.int .i64) aK,.box 4 .bool dC,.box 158 .opq (.fn 154 [] [(.ptr 3 dk 0 []),(.ptr 4 (.list (.int .i64)) 0 []),(.ptr 1 .bool 0 []),(.ptr 2 .opq 0 []),(.ptr 5 .opq 0 [])]),.box 32 dk (.dat dk),.box 81 (.list (.int .i64)) (.own (.int .i64) 6),.box 158 .opq (.fn 100 [] [(.ptr 0 (.int .i64) 0 [])]),.arr 3 (.int .i64) false]⟩ 0 ⟨[(8,.ptr 1 .bool 0 [])],[.box 3 (.int .i64) aK,.box 4 .bool dC]⟩
def YO:aY:=⟨99,⟨[(0,.dat dk),(1,.dat (.list (.int .i64))),(2,.fn 100 [] [(.ptr 0 (.int .i64) 0 [])])],E2⟩,⟨[(0,dC)],E2⟩,FO⟩
def L9:bn:=cr [Tz] [(0,W1.go J8 1)] 1
theorem ZR:cc bj (L9).Γ:=bV ⟨aoj,ai⟩
theorem aoy:cM L9 Tryz.f99 0 0:=cX (ax:=W1) (b:=DW) (m:=[]) ZR ai
theorem apV:bc YO:=cy (F:=L9) (fn:=Tryz.f99) (m:=dt Tryz.f99 [0]) ZR Tryz.func99 ⟨aoy,ai⟩
def YN:aY:=⟨101,⟨[(0,.dat iB)],[]⟩,eC,FL⟩
theorem apU:bc YN:=cf (l:=[]) Tryz.func101 ai
def WZ:bK:=⟨⟨[(2,.ptr 0 dk 0 []),(5,.ptr 1 (.list (.int .i64)) 0 []),(6,.fn 97 [] [(.ptr 0 dk 0 []),(.ptr 1 (.list (.int .i64)) 0 [])]),(33,.dat (.list iB)),(34,aK),(35,aK)],uq⟩,.ret,r4,(.exit 0),⟨[(2,.ptr 0 dk 0 []),(5,.ptr 1 (.list (.int .i64)) 0 [])],uq⟩⟩
def W0:bK:=⟨⟨[(5,.ptr 0 (.list (.int .i64)) 0 []),(61,.dat (.list iB)),(62,aK),(63,aK)],[.box 81 (.list (.int .i64)) (.own (.int .i64) 1),.arr 3 (.int .i64) false]⟩,.ret,r4,(.exit 2),⟨[],[]⟩⟩
def YM:aY:=⟨42,⟨[(0,.dat dk),(1,.dat (.list (.int .i64)))],[]⟩,eC,tI⟩
def J1:bn:=cr [ZY,WM,YO,YN] [(0,WZ.go Mw 0),(2,W0.go Mx 0)] 0
theorem Mu:cc bj (J1).Γ:=bV ⟨aq1,aof,apV,apU,ai⟩
theorem aow:cM J1 Tryz.f42 0 0:=cX (ax:=WZ) (b:=y8) (m:=[]) Mu ai
theorem aox:cM J1 Tryz.f42 2 1:=cX (ax:=W0) (b:=DV) (m:=[]) Mu ai
theorem apT:bc YM:=cy (F:=J1) (fn:=Tryz.f42) (m:=dt Tryz.f42 [0,2]) Mu Tryz.func42 ⟨aow,aox,ai⟩
def ZX:aY:=⟨45,pF,pF,F9⟩
theorem aq0:bc ZX:=cf (l:=[wa,Kf]) Tryz.func45 ⟨zf,My,ai⟩
def ah6:bK:=⟨⟨[(5,dC),(6,.ptr 0 ht 0 []),(7,.own bx 1),(11,.own dw 2),(12,.ptr 3 ht 0 []),(13,aK)],[.box 36 ht (.dat ht),.arr 58 bx false,.arr 41 dw false,.box 36 ht (.dat ht)]⟩,.ret,r4,(.exit 0),⟨[(5,dC),(6,.ptr 0 ht 0 []),(7,.own bx 1),(12,.ptr 2 ht 0 [])],[.box 36 ht (.dat ht),.arr 58 bx false,.box 36 ht (.dat ht)]⟩⟩
def S7:aY:=⟨11,⟨[(0,.dat mY),(1,.dat (.list lz))],[]⟩,eC,nl⟩
def S8:bn:=cr [MK,YW,NP,No,MJ,MP,Tx,YM,ZX] [(0,ah6.go IZ 0)] 0
theorem Vp:cc bj (S8).Γ:=bV ⟨Za,aqf,ar8,aqI,ap4,at8,aoc,apT,aq0,ai⟩
theorem amd:cM S8 Tryz.f11 0 0:=cX (ax:=ah6) (b:=Dc) (m:=[]) Vp ai
theorem amI:cz bj S7:=pD (F:=S8) (fn:=Tryz.f11) (m:=dt Tryz.f11 [0]) Vp Tryz.func11 ⟨amd,ai⟩
end D
