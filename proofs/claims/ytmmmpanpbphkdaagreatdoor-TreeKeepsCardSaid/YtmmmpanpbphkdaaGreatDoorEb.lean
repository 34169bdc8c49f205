import Derived.Test.YtmmmpanpbphkdaaGreatDoorEa
set_option linter.unusedVariables false
set_option maxRecDepth 100000
open Go Go.X Go.Proofs D
namespace D
theorem aa7:cz bj NP:=pD (F:=aqM) (fn:=Tryz.f15) (m:=[]) (bV ⟨zp,zi,aaS,aab,aaa,aqZ,ayW,ai⟩) Tryz.func15 ai
theorem ar8:bc NP:=aa7.x aC
def Wd:bK:=dY ⟨[(1,.ptr 0 ht 0 []),(3,.ptr 1 et 0 []),(5,aK)],[.box 36 ht (.dat ht),.box 85 et (.dat et)]⟩ 0 ⟨[(5,aK)],[]⟩
def DF:Shape:=E1
def DG:Shape:=iA
def aoq:aY:=⟨17,DF,DG,NX⟩
def LY:bn:=cr [tv,tp] [(0,Wd.go Yk 0)] 0
theorem Yj:cc bj (LY).Γ:=bV ⟨zp,zi,ai⟩
theorem an0:cM LY Tryz.f17 0 0:=cX (ax:=Wd) (b:=Yi) (m:=[]) Yj ai
theorem apa:cz bj aoq:=pD (F:=LY) (fn:=Tryz.f17) (m:=dt Tryz.f17 [0]) Yj Tryz.func17 ⟨an0,ai⟩
def X5:bK:=dY ⟨[(3,aK),(7,.dat (.list iB)),(8,aK),(9,aK)],[]⟩ 0 ⟨[(3,aK)],[]⟩
def ZY:aY:=⟨19,⟨[(0,.dat dk)],[]⟩,iA,Ga⟩
def MW:bn:=cr [] [(0,X5.go Nd 0)] 0
theorem aah:cc bj (MW).Γ:=bV ai
theorem apS:cM MW Tryz.f19 0 0:=cX (ax:=X5) (b:=ze) (m:=[]) aah ai
theorem aq1:bc ZY:=cy (F:=MW) (fn:=Tryz.f19) (m:=dt Tryz.f19 [0]) aah Tryz.func19 ⟨apS,ai⟩
def DE:Shape:=⟨[],[]⟩
def rt:Shape:=E1
def aop:aY:=⟨80,DE,rt,NG⟩
def aor:bn:=oe [Nl,MM]
theorem aoZ:cz bj aop:=pD (F:=aor) (fn:=Tryz.f80) (m:=[]) (bV ⟨aax,Ze,ai⟩) Tryz.func80 ai
def SM:aY:=⟨85,⟨[(0,.ptr 0 fN 0 []),(1,aK),(2,.dat ac),(3,.dat (.list ac))],[.box 143 fN mM]⟩,⟨[(0,.fn 135 [] [(.ptr 1 .opq 0 []),(.ptr 2 (.int .i64) 0 []),(.ptr 3 ac 0 []),(.ptr 4 (.list ac) 0 [])])],[.box 143 fN mM,.box 141 .opq (.ptr 0 fN 0 []),.box 3 (.int .i64) aK,.box 39 ac (.dat ac),.box 62 (.list ac) (.dat (.list ac))]⟩,qU⟩
def alQ:bn:=cr [] [] 1
theorem ah1:bc SM:=cy (F:=alQ) (fn:=Tryz.f85) (m:=[]) (bV ai) Tryz.func85 ai
def x8:Shape:=⟨[(0,.ptr 0 fN 0 []),(1,.dat et),(2,.dat ac),(3,.dat (.list ac))],[.box 143 fN mM]⟩
def x9:Shape:=⟨[(0,.dat (.list bx))],[.box 143 fN mM]⟩
def pR (cZ:(cE×aL×au×bB×Int×H)->O (aj×bB×Int×H)):aY:=⟨136,x8,x9,cZ⟩
def R6:aY:=⟨234,um,⟨jQ,cA⟩,H6⟩
def ayw:bn:=ma hC (hP []) (λ_ _=>.fail) 0
theorem ayC:cz bj R6:=
  abT (F:=ayw) eA (bV ai) eO (fn:=Tryz.f234) Tryz.func234 aC aC aC aC aC (λd=>(decide ((List.length ([]:au)+List.length d.1)*32<=am))) (λd=>(d.1,())) (λd=>([],())) (λd=>List.length d.1) (λd=>rfl) (λd=>aC) (λd=>aC) (λd h=>congrArg (λl=>(l,())) (List.eq_nil_of_length_eq_zero h).symm)
theorem ayD:bc R6:=ayC.x aC
def afx:bK:=⟨⟨[(0,.own ac 0),(1,.fn 74 [] []),(7,aK),(8,aK)],cA⟩,.ret,⟨[(4,aK)],cA⟩,(.exit 0),⟨[],cA⟩⟩
def afG:aY:=⟨116,⟨[(0,.own ac 0),(1,.fn 74 [] [])],cA⟩,⟨[(0,aK)],cA⟩,xL⟩
def Ql:bn:=cr [rA] [(0,afx.go Qr 1)] 1
theorem afT:cc bj (Ql).Γ:=bV ⟨tn,ai⟩
theorem awX:cM Ql Tryz.f116 0 0:=cX (ax:=afx) (b:=BY) (m:=[]) afT ai
theorem qr:bc afG:=cy (F:=Ql) (fn:=Tryz.f116) (m:=dt Tryz.f116 [0]) afT Tryz.func116 ⟨awX,ai⟩
def afO:bK:=dY ⟨[(0,.own ac 0),(1,.fn 74 [] []),(5,aK),(6,aK)],cA⟩ 0 ⟨[(0,.own ac 0),(5,aK)],cA⟩
def agb:aY:=⟨233,⟨[(0,.own ac 0),(1,.fn 74 [] [])],cA⟩,⟨[(0,.own ac 1)],[.gone,.arr 39 ac false]⟩,BS⟩
def Qh:bn:=cr [rA,afG] [(0,afO.go QH 1)] 1
theorem agh:cc bj (Qh).Γ:=bV ⟨tn,qr,ai⟩
theorem axe:cM Qh Tryz.f233 0 0:=cX (ax:=afO) (b:=xJ) (m:=[]) agh ai
theorem axC:bc agb:=cy (F:=Qh) (fn:=Tryz.f233) (m:=dt Tryz.f233 [0]) agh Tryz.func233 ⟨axe,ai⟩
def Vz:aY:=⟨269,KU,iA,TH⟩
theorem amM:bc Vz:=cf (l:=[]) Tryz.func269 ai
def Tj:aY:=⟨252,KU,iA,y2⟩
theorem We:bc Tj:=cf (l:=[Vz]) Tryz.func252 ⟨amM,ai⟩
def xX:Shape:=⟨EN,cA⟩
def xY:Shape:=⟨[],cA⟩
def sz (cm:(Int×Int×Int×au×H)->O (au×H)):aY:=⟨251,xX,xY,cm⟩
def ahT:aY:=⟨237,jA,iA,IY⟩
theorem alR:bc ahT:=cf (l:=[S3]) Tryz.func237 ⟨aio,ai⟩
def tf:aY:=⟨236,zW,iA,k8⟩
theorem vU:bc tf:=cf (l:=[ahT]) Tryz.func236 ⟨alR,ai⟩
def af7:bK:=dY ⟨[(0,.own ac 0),(1,aK),(2,aK),(3,.fn 236 [] []),(8,aK),(9,aK)],cA⟩ 2 ⟨[(0,.own ac 0),(1,aK),(2,aK),(3,.fn 236 [] []),(8,aK)],cA⟩
def af6:bK:=dY ⟨[(0,.own ac 0),(1,aK),(2,aK),(3,.fn 236 [] []),(8,aK)],cA⟩ 0 ⟨[],cA⟩
def kw:aY:=⟨260,⟨wO,cA⟩,⟨[],cA⟩,Hq⟩
def HB:bn:=cr [tf] [(2,af7.go HC 1),(0,af6.go Qf 1)] 1
theorem Qe:cc bj (HB).Γ:=bV ⟨vU,ai⟩
theorem afY:cM HB Tryz.f260 2 1:=cX (ax:=af7) (b:=xH) (m:=[]) Qe ai
theorem axt:cM HB Tryz.f260 0 0:=cX (ax:=af6) (b:=B2) (m:=[(2,hk (b4 Tryz.f260) 1)]) Qe ⟨afY,ai⟩
theorem axh:bc kw:=cy (F:=HB) (fn:=Tryz.f260) (m:=dt Tryz.f260 [0,2]) Qe Tryz.func260 ⟨axt,afY,ai⟩
def agH:bK:=⟨⟨[(0,.own ac 0),(2,aK),(3,aK),(4,.fn 236 [] []),(10,aK)],cA⟩,(.exit 0),⟨[],cA⟩,.ret,⟨[],cA⟩⟩
def agY:aY:=⟨283,⟨EN,cA⟩,⟨[],cA⟩,B3⟩
def Si:bn:=cr [tf] [(0,agH.go R3 1)] 1
theorem ag2:cc bj (Si).Γ:=bV ⟨vU,ai⟩
theorem ayu:cM Si Tryz.f283 0 0:=cX (ax:=agH) (b:=u6) (m:=[]) ag2 ai
theorem ayp:bc agY:=cy (F:=Si) (fn:=Tryz.f283) (m:=dt Tryz.f283 [0]) ag2 Tryz.func283 ⟨ayu,ai⟩
def agF:bK:=dY ⟨[(0,.own ac 0),(3,.fn 236 [] []),(8,aK),(9,aK),(10,aK),(11,aK)],cA⟩ 0 ⟨[(0,.own ac 0),(3,.fn 236 [] []),(8,aK),(9,aK),(10,aK)],cA⟩
def agG:bK:=dY ⟨[(0,.own ac 0),(3,.fn 236 [] []),(8,aK),(9,aK),(12,aK)],cA⟩ 2 ⟨[],cA⟩
def agX:aY:=⟨261,⟨wO,cA⟩,⟨[],cA⟩,HY⟩
def HF:bn:=cr [agY] [(0,agF.go R1 1),(2,agG.go R2 1)] 1
theorem i9:cc bj (HF).Γ:=bV ⟨ayp,ai⟩
theorem ayr:cM HF Tryz.f261 0 0:=cX (ax:=agF) (b:=B4) (m:=[]) i9 ai
theorem ays:cM HF Tryz.f261 2 1:=cX (ax:=agG) (b:=B5) (m:=[]) i9 ai
theorem ayn:bc agX:=cy (F:=HF) (fn:=Tryz.f261) (m:=dt Tryz.f261 [0,2]) i9 Tryz.func261 ⟨ayr,ays,ai⟩
def ag6:aY:=⟨296,⟨[(0,.own ac 0),(1,aK),(2,aK),(3,.ptr 1 (.int .i64) 0 []),(4,.fn 236 [] [])],wR⟩,⟨[(0,aK),(1,aK)],wR⟩,x1⟩
def ayI:bn:=cr [tf] [] 2
theorem ayM:bc ag6:=cy (F:=ayI) (fn:=Tryz.f296) (m:=[]) (bV ⟨vU,ai⟩) Tryz.func296 ai
def R8:aY:=⟨287,⟨[(0,.own ac 0),(1,aK),(2,aK),(3,aK),(4,.ptr 1 (.int .i64) 0 []),(5,.fn 236 [] [])],wR⟩,⟨[(0,aK)],wR⟩,B7⟩
def ayH:bn:=cr [ag6] [] 2
theorem ag7:bc R8:=cy (F:=ayH) (fn:=Tryz.f287) (m:=[]) (bV ⟨ayM,ai⟩) Tryz.func287 ai
def afL:aY:=⟨286,⟨[(0,.own ac 0),(1,aK),(2,.ptr 1 (.int .i64) 0 []),(3,.fn 236 [] [])],wR⟩,⟨[(0,aK)],wR⟩,xM⟩
def axk:bn:=cr [R8] [] 2
theorem axu:bc afL:=cy (F:=axk) (fn:=Tryz.f286) (m:=[]) (bV ⟨ag7,ai⟩) Tryz.func286 ai
def ago:aY:=⟨263,⟨wO,cA⟩,⟨[(0,aK),(1,aK)],cA⟩,HG⟩
def axK:bn:=cr [R8,afL] [] 1
theorem axP:bc ago:=cy (F:=axK) (fn:=Tryz.f263) (m:=[]) (bV ⟨ag7,axu,ai⟩) Tryz.func263 ai
def afQ:bK:=dY ⟨[(0,.own ac 0),(8,aK),(9,aK)],cA⟩ 0 ⟨[],cA⟩
def agd:aY:=⟨264,⟨wO,cA⟩,⟨[],cA⟩,BU⟩
def Qj:bn:=cr [] [(0,afQ.go QJ 1)] 1
theorem agk:cc bj (Qj).Γ:=bV ai
theorem axi:cM Qj Tryz.f264 0 0:=cX (ax:=afQ) (b:=BM) (m:=[]) agk ai
theorem axV:bc agd:=cy (F:=Qj) (fn:=Tryz.f264) (m:=dt Tryz.f264 [0]) agk Tryz.func264 ⟨axi,ai⟩
end D
open Go Go.X Go.Proofs D
namespace D
def aeb:bK:=dY ⟨zS,cA⟩ 2 ⟨zS,cA⟩
def aec:bK:=dY ⟨[(0,.own ac 0),(1,aK),(2,aK),(3,.fn 236 [] []),(9,aK),(10,aK),(11,aK)],cA⟩ 4 ⟨zS,cA⟩
def aed:bK:=dY ⟨[(0,.own ac 0),(1,aK),(2,aK),(3,.fn 236 [] []),(9,aK),(10,aK),(12,aK)],cA⟩ 6 ⟨zS,cA⟩
def aea:bK:=⟨⟨zS,cA⟩,.ret,⟨[(8,dC)],cA⟩,(.exit 0),⟨[],cA⟩⟩
def aeq:aY:=⟨265,⟨wO,cA⟩,⟨[(0,dC)],cA⟩,BD⟩
def xQ:bn:=cr [tf] [(2,aeb.go Hh 1),(4,aec.go Hi 1),(6,aed.go Hj 1),(0,aea.go P4 1)] 1
theorem BC:cc bj (xQ).Γ:=bV ⟨vU,ai⟩
theorem aee:cM xQ Tryz.f265 2 1:=cX (ax:=aeb) (b:=BJ) (m:=[]) BC ai
theorem aef:cM xQ Tryz.f265 4 2:=cX (ax:=aec) (b:=BK) (m:=[]) BC ai
theorem aeg:cM xQ Tryz.f265 6 3:=cX (ax:=aed) (b:=BB) (m:=[]) BC ai
theorem awy:cM xQ Tryz.f265 0 0:=cX (ax:=aea) (b:=BI) (m:=[(2,hk (b4 Tryz.f265) 1),(4,hk (b4 Tryz.f265) 2),(6,hk (b4 Tryz.f265) 3)]) BC ⟨aee,aef,aeg,ai⟩
theorem awA:bc aeq:=cy (F:=xQ) (fn:=Tryz.f265) (m:=dt Tryz.f265 [0,2,4,6]) BC Tryz.func265 ⟨awy,aee,aef,aeg,ai⟩
def af3:bK:=dY ⟨zU,cA⟩ 2 ⟨zU,cA⟩
def af4:bK:=dY ⟨zU,cA⟩ 4 ⟨zU,cA⟩
def af2:bK:=dY ⟨zU,cA⟩ 0 ⟨[(11,aK)],cA⟩
def afM:aY:=⟨266,⟨EN,cA⟩,⟨[(0,aK)],cA⟩,BO⟩
def BF:bn:=cr [tf] [(2,af3.go Qw 1),(4,af4.go Qx 1),(0,af2.go dl 1)] 1
theorem HA:cc bj (BF).Γ:=bV ⟨vU,ai⟩
theorem afB:cM BF Tryz.f266 2 1:=cX (ax:=af3) (b:=Hy) (m:=[]) HA ai
theorem afC:cM BF Tryz.f266 4 2:=cX (ax:=af4) (b:=Hz) (m:=[]) HA ai
theorem aw2:cM BF Tryz.f266 0 0:=cX (ax:=af2) (b:=Hx) (m:=[(2,hk (b4 Tryz.f266) 1),(4,hk (b4 Tryz.f266) 2)]) HA ⟨afB,afC,ai⟩
theorem axv:bc afM:=cy (F:=BF) (fn:=Tryz.f266) (m:=dt Tryz.f266 [0,2,4]) HA Tryz.func266 ⟨aw2,afB,afC,ai⟩
def agq:bK:=dY ⟨qz,cA⟩ 0 ⟨qz,cA⟩
def lc:bK:=dY ⟨qz,cA⟩ 2 ⟨qz,cA⟩
def agQ:bK:=dY ⟨qz,cA⟩ 6 ⟨qz,cA⟩
def agR:bK:=dY ⟨qz,cA⟩ 8 ⟨qz,cA⟩
def agP:bK:=dY ⟨qz,cA⟩ 4 ⟨[(0,.own ac 0),(1,aK),(13,aK)],cA⟩
def agO:aY:=⟨267,⟨EN,cA⟩,⟨[(0,aK),(1,dC)],cA⟩,d9⟩
def bv:bn:=cr [tf] [(0,agq.go Sc 1),(2,lc.go Sd 1),(6,agQ.go Se 1),(8,agR.go Sf 1),(4,agP.go HT 1)] 1
theorem xP:cc bj (bv).Γ:=bV ⟨vU,ai⟩
theorem ax0:cM bv Tryz.f267 0 0:=cX (ax:=agq) (b:=HO) (m:=[]) xP ai
theorem ax1:cM bv Tryz.f267 2 1:=cX (ax:=lc) (b:=HP) (m:=[]) xP ai
theorem agL:cM bv Tryz.f267 6 3:=cX (ax:=agQ) (b:=HR) (m:=[]) xP ai
theorem agM:cM bv Tryz.f267 8 4:=cX (ax:=agR) (b:=HS) (m:=[]) xP ai
theorem ax2:cM bv Tryz.f267 4 2:=cX (ax:=agP) (b:=HQ) (m:=[(6,hk (b4 Tryz.f267) 3),(8,hk (b4 Tryz.f267) 4)]) xP ⟨agL,agM,ai⟩
theorem ayt:bc agO:=cy (F:=bv) (fn:=Tryz.f267) (m:=dt Tryz.f267 [0,2,4,6,8]) xP Tryz.func267 ⟨ax0,ax1,ax2,agL,agM,ai⟩
def ahs:aY:=⟨284,iA,KU,IN⟩
theorem alq:bc ahs:=cf (l:=[Tj]) Tryz.func284 ⟨We,ai⟩
def ahB:aY:=⟨285,⟨[(0,.ptr 0 (.int .u64) 0 [])],[.box 315 (.int .u64) (.dat (.int .u64))]⟩,⟨[(0,.dat (.int .u64))],[.box 315 (.int .u64) (.dat (.int .u64))]⟩,SW⟩
def alA:bn:=cr [] [] 1
theorem alB:bc ahB:=cy (F:=alA) (fn:=Tryz.f285) (m:=[]) (bV ai) Tryz.func285 ai
def af5:bK:=dY ⟨[(0,.own ac 0),(1,aK),(8,aK),(9,.ptr 1 (.int .u64) 0 []),(10,.dat (.int .u64)),(11,aK)],[.arr 39 ac false,.box 315 (.int .u64) (.dat (.int .u64))]⟩ 0 ⟨[],cA⟩
def agt:aY:=⟨262,⟨wO,cA⟩,⟨[],cA⟩,Hp⟩
def Qc:bn:=cr [ahs,ahB] [(0,af5.go Qd 1)] 1
theorem af8:cc bj (Qc).Γ:=bV ⟨alq,alB,ai⟩
theorem axs:cM Qc Tryz.f262 0 0:=cX (ax:=af5) (b:=co) (m:=[]) af8 ai
theorem axg:bc agt:=cy (F:=Qc) (fn:=Tryz.f262) (m:=dt Tryz.f262 [0]) af8 Tryz.func262 ⟨axs,ai⟩
def sc:bK:=⟨⟨[(0,.own ac 0),(1,aK),(2,aK),(3,aK),(4,.fn 236 [] []),(10,dC),(11,dC),(12,aK),(13,aK),(75,dC)],cA⟩,.nrm,⟨Ul,cA⟩,.ret,⟨[],cA⟩⟩
def sd:bK:=⟨⟨[(0,.own ac 0),(1,aK),(2,aK),(3,aK),(4,.fn 236 [] []),(10,dC),(11,dC),(12,aK),(13,aK),(97,dC)],cA⟩,.nrm,⟨Us,cA⟩,(.exit 1),⟨zY,cA⟩⟩
def sy:bK:=⟨⟨Us,cA⟩,.nrm,⟨zY,cA⟩,(.exit 90000020),⟨[],[]⟩⟩
def sx:bK:=⟨⟨Ul,cA⟩,.nrm,⟨zY,cA⟩,(.exit 1),⟨zY,cA⟩⟩
def xN:bK:=⟨⟨zY,cA⟩,.ret,⟨[],cA⟩,(.exit 80000000),⟨[],[]⟩⟩
def R7:aY:=⟨251,xX,xY,Ss⟩
def kY (cm:(Int×Int×Int×au×H)->O (au×H)):bn:=cr [(sz cm),tf,kw,agX,ago,agd,aeq,afM,agO,agt] [(0,xN.go (HL cm) 1)] 1
def oo (cm:(Int×Int×Int×au×H)->O (au×H)):lC:=[(100016,sc.go (ns cm) 1),(100018,sd.go (pK cm) 1),(20,sy.go (qR cm) 1),(17,sx.go (l8 cm) 1)]
theorem aw3 (cm:(Int×Int×Int×au×H)->O (au×H)) (d:sc.S.ty.den): @Eq (O sc.Out) ((gN (kY cm) (oo cm) (eY (b4 Tryz.f251) 100016) 1 (sc.S.enc d)).bind λ(e,st)=>sc.out (kY cm).m e st).val (ns cm d):=aC
theorem aw5 (cm:(Int×Int×Int×au×H)->O (au×H)) (d:sd.S.ty.den): @Eq (O sd.Out) ((gN (kY cm) (oo cm) (eY (b4 Tryz.f251) 100018) 1 (sd.S.enc d)).bind λ(e,st)=>sd.out (kY cm).m e st).val (pK cm d):=aC
theorem axS (cm:(Int×Int×Int×au×H)->O (au×H)) (d:sy.S.ty.den): @Eq (O sy.Out) ((gN (kY cm) (oo cm) (eY (b4 Tryz.f251) 20) 1 (sy.S.enc d)).bind λ(e,st)=>sy.out (kY cm).m e st).val (qR cm d):=aC
theorem axQ (cm:(Int×Int×Int×au×H)->O (au×H)) (d:sx.S.ty.den): @Eq (O sx.Out) ((gN (kY cm) (oo cm) (eY (b4 Tryz.f251) 17) 1 (sx.S.enc d)).bind λ(e,st)=>sx.out (kY cm).m e st).val (l8 cm d):=aC
theorem ax3 (cm:(Int×Int×Int×au×H)->O (au×H)) (d:xN.S.ty.den): @Eq (O (xN.S.ty.den⊕xN.Out)) (xN.bodyK (kY cm) (oo cm) (hk (b4 Tryz.f251) 0) 0 d).val (xS cm d):=aC
theorem ayE (cm:(Int×Int×Int×au×H)->O (au×H)) (d:xX.ty.den): @Eq (O xY.ty.den) (sr (kY cm) (oo cm) Tryz.f251 xX xY d).val (BT cm d):=aC
theorem xT (cm:(Int×Int×Int×au×H)->O (au×H)) (kS:cz bj (sz cm)):cc bj (kY cm).Γ:=bV ⟨(kS.x aC),vU,axh,ayn,axP,axV,awA,axv,ayt,axg,ai⟩
theorem aw4 (cm:(Int×Int×Int×au×H)->O (au×H)) (kS:cz bj (sz cm)):jL bj (kY cm) Tryz.f251.ntmps (sc.go (ns cm) 1) (eY (b4 Tryz.f251) 100016):=
  lT eA (xT cm kS) eO (ax:=sc) (k:=1) (f:=ns cm) (C:=(oo cm)) (l:=[]) (m:=[]) aC ai aC ai aC (eS _ aC) (aw3 cm)
theorem aw6 (cm:(Int×Int×Int×au×H)->O (au×H)) (kS:cz bj (sz cm)):jL bj (kY cm) Tryz.f251.ntmps (sd.go (pK cm) 1) (eY (b4 Tryz.f251) 100018):=
  lT eA (xT cm kS) eO (ax:=sd) (k:=1) (f:=pK cm) (C:=(oo cm)) (l:=[]) (m:=[]) aC ai aC ai aC (eS _ aC) (aw5 cm)
theorem axT (cm:(Int×Int×Int×au×H)->O (au×H)) (kS:cz bj (sz cm)):jL bj (kY cm) Tryz.f251.ntmps (sy.go (qR cm) 1) (eY (b4 Tryz.f251) 20):=
  lT eA (xT cm kS) eO (ax:=sy) (k:=1) (f:=qR cm) (C:=(oo cm)) (l:=[]) (m:=[]) aC ai aC ai aC (eS _ aC) (axS cm)
theorem axR (cm:(Int×Int×Int×au×H)->O (au×H)) (kS:cz bj (sz cm)):jL bj (kY cm) Tryz.f251.ntmps (sx.go (l8 cm) 1) (eY (b4 Tryz.f251) 17):=
  lT eA (xT cm kS) eO (ax:=sx) (k:=1) (f:=l8 cm) (C:=(oo cm)) (l:=[]) (m:=[(sd.go (pK cm) 1,eY (b4 Tryz.f251) 100018),(sy.go (qR cm) 1,eY (b4 Tryz.f251) 20)]) aC ai aC ⟨aw6 cm kS,axT cm kS,ai⟩ aC (eS _ aC) (axQ cm)
theorem ayo (cm:(Int×Int×Int×au×H)->O (au×H)) (kS:cz bj (sz cm)):hl bj (kY cm) Tryz.f251.ntmps 0 (hk (b4 Tryz.f251) 0):=
  arZ eA (xT cm kS) eO (ax:=xN) (f:=HL cm) (b:=xS cm) (C:=(oo cm)) (l:=[]) (m:=[(sc.go (ns cm) 1,eY (b4 Tryz.f251) 100016),(sx.go (l8 cm) 1,eY (b4 Tryz.f251) 17)]) (λ_=>rfl) aC aC ai aC ⟨aw4 cm kS,axR cm kS,ai⟩ aC (eS _ aC) (ax3 cm)
theorem axU (cm:(Int×Int×Int×au×H)->O (au×H)) (kS:cz bj (sz cm)):cz bj ⟨251,xX,xY,BT cm⟩:=
  At (C:=(oo cm)) (F:=(kY cm)) eA (xT cm kS) eO (fn:=Tryz.f251) (l:=[(0,hk (b4 Tryz.f251) 0)]) (m:=[]) Tryz.func251 aC aC aC ⟨ayo cm kS,ai⟩ aC ai (eS _ aC) aC (ayE cm)
theorem agj: ∀n,cz bj ⟨251,xX,xY,HU n⟩
  |0=>AR
  |n+1=>axU _ (agj n)
theorem ayF:cz bj R7:=agj jf
theorem ayG:bc R7:=(ayF).x aC
def agC:aY:=⟨235,⟨[(0,.own ac 0),(1,.fn 236 [] [])],cA⟩,⟨[],cA⟩,HK⟩
def ax7:bn:=cr [Tj,R7] [] 1
theorem ayh:bc agC:=cy (F:=ax7) (fn:=Tryz.f235) (m:=[]) (bV ⟨We,ayG,ai⟩) Tryz.func235 ai
def Yc:bK:=dY ⟨[(4,.own ac 0),(13,.own ac 1),(14,aK),(15,aK)],[.arr 39 ac false,.arr 39 ac false]⟩ 0 ⟨[(4,.own ac 0)],cA⟩
def Kw:aY:=⟨213,um,⟨jQ,cA⟩,wE⟩
def MY:bn:=cr [IU,R6,agb,agC] [(0,Yc.go Nz 0)] 0
theorem aaz:cc bj (MY).Γ:=bV ⟨S1,ayD,axC,ayh,ai⟩
theorem apK:cM MY Tryz.f213 0 0:=cX (ax:=Yc) (b:=ts) (m:=[]) aaz ai
theorem NA:bc Kw:=cy (F:=MY) (fn:=Tryz.f213) (m:=dt Tryz.f213 [0]) aaz Tryz.func213 ⟨apK,ai⟩
def Yd:bK:=⟨⟨[(3,.own ac 0),(4,c4),(7,.dat (.list ac)),(8,aK),(9,aK)],cA⟩,.ret,⟨[(2,.own ac 0)],cA⟩,(.exit 0),⟨[(3,.own ac 0),(4,c4)],cA⟩⟩
def Z5:aY:=⟨238,um,⟨jQ,cA⟩,AM⟩
def MZ:bn:=cr [] [(0,Yd.go NB 0)] 0
theorem aaA:cc bj (MZ).Γ:=bV ai
theorem apN:cM MZ Tryz.f238 0 0:=cX (ax:=Yd) (b:=tt) (m:=[]) aaA ai
theorem aqz:bc Z5:=cy (F:=MZ) (fn:=Tryz.f238) (m:=dt Tryz.f238 [0]) aaA Tryz.func238 ⟨apN,ai⟩
def Xm:bK:=dY ⟨[(0,.dat (.list ac)),(5,.own ac 0),(7,.ptr 1 ac 0 []),(12,.own ac 2),(13,aK),(14,aK),(18,.dat (.list ac)),(19,aK),(20,aK)],[.arr 39 ac false,.box 39 ac (.dat ac),.arr 39 ac false]⟩ 2 T3
def Xl:bK:=dY T3 0 ⟨[(5,.own ac 0)],cA⟩
def YX:aY:=⟨215,⟨[(0,.dat (.list ac)),(1,.dat (.list ac))],[]⟩,⟨jQ,cA⟩,FV⟩
def J2:bn:=cr [D6,Kw,Z5] [(2,Xm.go MT 0),(0,Xl.go MS 0)] 0
theorem ME:cc bj (J2).Γ:=bV ⟨Kt,NA,aqz,ai⟩
theorem YD:cM J2 Tryz.f215 2 1:=cX (ax:=Xm) (b:=D3) (m:=[]) ME ai
theorem ask:cM J2 Tryz.f215 0 0:=cX (ax:=Xl) (b:=D2) (m:=[(2,hk (b4 Tryz.f215) 1)]) ME ⟨YD,ai⟩
theorem apJ:bc YX:=cy (F:=J2) (fn:=Tryz.f215) (m:=dt Tryz.f215 [0,2]) ME Tryz.func215 ⟨ask,YD,ai⟩
def Wx:aY:=⟨214,⟨[(0,.dat (.list ac)),(1,.ptr 0 (.list ac) 0 [])],[.box 62 (.list ac) (.own ac 1),.arr 39 ac false]⟩,⟨[(0,.own ac 2)],[.box 62 (.list ac) (.own ac 1),.arr 39 ac true,.arr 39 ac false]⟩,zb⟩
def am0:bn:=cr [YX] [] 2
theorem anB:bc Wx:=cy (F:=am0) (fn:=Tryz.f214) (m:=[]) (bV ⟨apJ,ai⟩) Tryz.func214 ai
def X1:aY:=⟨218,⟨[(0,.dat ac),(1,c4),(2,c4)],[]⟩,oT,Ev⟩
theorem ao7:bc X1:=cf (l:=[pX,JZ]) Tryz.func218 ⟨rz,adc,ai⟩
def ahN:bK:=dY ⟨[(5,.ptr 1 (.list ac) 0 []),(7,.ptr 3 dw 0 []),(9,.ptr 4 ac 0 []),(11,.own ac 5),(60,.own ac 2),(61,aK),(62,aK)],[.loop 1016800 EY,.box 62 (.list ac) (.own ac 2),.arr 39 ac true,.box 41 dw (.dat dw),.box 39 ac (.dat ac),.arr 39 ac false]⟩ 3 ⟨[(5,.ptr 1 (.list ac) 0 []),(11,.own ac 3)],[.loop 1016800 EY,.box 62 (.list ac) (.own ac 2),.arr 39 ac true,.arr 39 ac false]⟩
def SN:Shape:=⟨[(0,.yld 1016800 0),(1,aK),(2,.dat dw)],[.loop 1016800 EY,.box 62 (.list ac) (.own ac 2),.arr 39 ac false]⟩
def SO:Shape:=⟨[(0,dC)],[.loop 1016800 EY,.box 62 (.list ac) (.own ac 3),.gone,.arr 39 ac false]⟩
def ahV:aY:=⟨1016800,SN,SO,pS⟩
def IM:bn:=cr [rA,D6,Em,pX,Kw,Wx,X1] [(3,ahN.go SJ 3)] 3
theorem al2 (d:SN.ty.den): @Eq (O SO.ty.den) (ss IM gb 1016800 (ko Tryz.f168 0) SN SO d).val (pS d):=aC
theorem ah0:cc bj (IM).Γ:=bV ⟨tn,Kt,Fz,rz,NA,anB,ao7,ai⟩
theorem alH:hl bj IM Tryz.f168.ntmps 3 (hk (Vl Tryz.f168 0) 0):=cX (ax:=ahN) (b:=ya) (m:=[]) ah0 ai
theorem al3:bc ahV:=
  FT (F:=IM) (c:=ko Tryz.f168 0) eA ah0 eO aC aC aC (m:=[(3,hk (Vl Tryz.f168 0) 0)]) aC ⟨alH,ai⟩ aC al2
def afv:bK:=⟨⟨[(0,.yld 1016800 0),(1,.ptr 1 (.list dw) 0 []),(3,aK)],ES⟩,.ret,⟨[],ES⟩,(.exit 0),⟨[],ES⟩⟩
def afD:aY:=⟨209,⟨[(0,.yld 1016800 0),(1,.ptr 1 (.list dw) 0 [])],[.loop 1016800 [(5,.ptr 2 (.list ac) 0 [])],.box 83 (.list dw) (.dat (.list dw)),.box 62 (.list ac) (.own ac 3),.arr 39 ac false]⟩,⟨[],ES⟩,QP⟩
def P6:bn:=cr [ahV] [(0,afv.go Qq 4)] 4
theorem afR:cc bj (P6).Γ:=bV ⟨al3,ai⟩
theorem awV:cM P6 Tryz.f209 0 0:=cX (ax:=afv) (b:=BG) (m:=[]) afR ai
theorem axl:bc afD:=cy (F:=P6) (fn:=Tryz.f209) (m:=dt Tryz.f209 [0]) afR Tryz.func209 ⟨awV,ai⟩
def Lq:Shape:=⟨[(0,.dat ac),(1,.dat (.list dw))],[]⟩
def Lr:Shape:=⟨jQ,cA⟩
def LI:aY:=⟨168,Lq,Lr,Eu⟩
def X2:bn:={cx:=hC,Γ:=hP [Sg,Kw,afD],Λ:=λk st=>.fail,keep:=λ_=>none,m:=0,rfs:=λk=>bif Nat.beq k 3 then some 1016800 else none,its:=[209]}
theorem apH (d:Lq.ty.den): @Eq (O Lr.ty.den) (l9 X2 Tryz.f168 Lq Lr d).val (Eu d):=aC
theorem ao4:cz bj LI:=
  rO (F:=X2) eA (bV ⟨ag1,NA,axl,ai⟩) eO (fn:=Tryz.f168) (m:=[]) Tryz.func168 aC aC aC ai (Bd (m:=[(3,ko Tryz.f168 0)]) (its:=[209]) aC ⟨Bo (Y:=1016800) aC aC,ai⟩ aC ⟨⟨_,Tryz.func209,aC,aC⟩,ai⟩) aC apH
theorem ao5:bc LI:=(ao4).x aC
def ahD:aY:=⟨169,⟨[(0,.dat ac),(1,.ptr 0 ac 0 [])],jZ⟩,⟨[(0,dC)],jZ⟩,SZ⟩
def als:bn:=cr [rA,D6] [] 1
theorem alD:bc ahD:=cy (F:=als) (fn:=Tryz.f169) (m:=[]) (bV ⟨tn,Kt,ai⟩) Tryz.func169 ai
end D
open Go Go.X Go.Proofs D
namespace D
def aar:bK:=dY ⟨[(0,.dat (.list bx)),(7,.dat (.list dw)),(8,aK),(9,aK)],[]⟩ 0 uk
def N3:aY:=⟨43,⟨[(0,.dat (.list bx)),(1,.dat (.list dw))],[]⟩,uk,xg⟩
def N4:bn:=cr [Ng] [(0,aar.go N6 0)] 0
theorem abB:cc bj (N4).Γ:=bV ⟨aaa,ai⟩
theorem ark:cM N4 Tryz.f43 0 0:=cX (ax:=aar) (b:=Au) (m:=[]) abB ai
theorem abC:bc N3:=cy (F:=N4) (fn:=Tryz.f43) (m:=dt Tryz.f43 [0]) abB Tryz.func43 ⟨ark,ai⟩
def VC:aY:=⟨173,⟨[(0,.dat ac),(1,.ptr 0 bx 0 [])],qx⟩,⟨[(0,dC)],qx⟩,TV⟩
def amE:bn:=cr [rc] [] 1
theorem amC:bc VC:=cy (F:=amE) (fn:=Tryz.f173) (m:=[]) (bV ⟨zs,ai⟩) Tryz.func173 ai
def afy:bK:=⟨⟨[(0,.dat (.list ac)),(1,.fn 173 [] [(.ptr 0 bx 0 [])]),(7,aK),(8,aK)],qx⟩,.ret,⟨[(4,aK)],qx⟩,(.exit 0),⟨[],qx⟩⟩
def afH:aY:=⟨116,⟨[(0,.dat (.list ac)),(1,.fn 173 [] [(.ptr 0 bx 0 [])])],qx⟩,⟨[(0,aK)],qx⟩,Hm⟩
def Qm:bn:=cr [VC] [(0,afy.go Qs 1)] 1
theorem afU:cc bj (Qm).Γ:=bV ⟨amC,ai⟩
theorem awY:cM Qm Tryz.f116 0 0:=cX (ax:=afy) (b:=BZ) (m:=[]) afU ai
theorem axo:bc afH:=cy (F:=Qm) (fn:=Tryz.f116) (m:=dt Tryz.f116 [0]) afU Tryz.func116 ⟨awY,ai⟩
def afr:aY:=⟨71,⟨[(0,.dat (.list ac)),(1,.fn 173 [] [(.ptr 0 bx 0 [])])],qx⟩,⟨[(0,dC)],qx⟩,BX⟩
def awE:bn:=cr [afH] [] 1
theorem awI:bc afr:=cy (F:=awE) (fn:=Tryz.f71) (m:=[]) (bV ⟨axo,ai⟩) Tryz.func71 ai
def Tl:aY:=⟨172,⟨[(0,.dat bx),(1,.ptr 0 (.list ac) 0 [])],[.box 62 (.list ac) (.dat (.list ac))]⟩,⟨[(0,dC)],[.box 62 (.list ac) (.dat (.list ac))]⟩,D5⟩
def am6:bn:=cr [afr] [] 1
theorem WI:bc Tl:=cy (F:=am6) (fn:=Tryz.f172) (m:=[]) (bV ⟨awI,ai⟩) Tryz.func172 ai
def agv:bK:=⟨⟨[(0,.own bx 0),(1,.fn 172 [] [(.ptr 1 (.list ac) 0 [])]),(7,aK),(8,aK)],r6⟩,.ret,⟨[(4,aK)],r6⟩,(.exit 0),⟨[],r6⟩⟩
def agm:aY:=⟨219,⟨[(0,.own bx 0),(1,.fn 172 [] [(.ptr 1 (.list ac) 0 [])])],r6⟩,⟨[(0,aK)],r6⟩,xV⟩
def QM:bn:=cr [Tl] [(0,agv.go QC 2)] 2
theorem agz:cc bj (QM).Γ:=bV ⟨WI,ai⟩
theorem axE:cM QM Tryz.f219 0 0:=cX (ax:=agv) (b:=BN) (m:=[]) agz ai
theorem axN:bc agm:=cy (F:=QM) (fn:=Tryz.f219) (m:=dt Tryz.f219 [0]) agz Tryz.func219 ⟨axE,ai⟩
def afN:bK:=dY ⟨[(0,.own bx 0),(1,.fn 172 [] [(.ptr 1 (.list ac) 0 [])]),(5,aK),(6,aK)],r6⟩ 0 ⟨[(0,.own bx 0),(5,aK)],r6⟩
def aga:aY:=⟨170,⟨[(0,.own bx 0),(1,.fn 172 [] [(.ptr 1 (.list ac) 0 [])])],r6⟩,⟨[(0,.own bx 2)],[.gone,.box 62 (.list ac) (.dat (.list ac)),.arr 58 bx false]⟩,BR⟩
def Qg:bn:=cr [Tl,agm] [(0,afN.go gc 2)] 2
theorem agf:cc bj (Qg).Γ:=bV ⟨WI,axN,ai⟩
theorem axd:cM Qg Tryz.f170 0 0:=cX (ax:=afN) (b:=xI) (m:=[]) agf ai
theorem axB:bc aga:=cy (F:=Qg) (fn:=Tryz.f170) (m:=dt Tryz.f170 [0]) agf Tryz.func170 ⟨axd,ai⟩
def LM:aY:=⟨137,⟨[(0,.dat (.list bx)),(1,.dat (.list ac))],[]⟩,kD,v6⟩
theorem Ym:bc LM:=cf (l:=[xW,aga]) Tryz.func137 ⟨HJ,axB,ai⟩
def Sj:Shape:=⟨[(0,.yld 1013600 0),(1,.dat bx)],[.loop 1013600 [(12,.ptr 1 (.list bx) 0 [])],.box 64 (.list bx) (.own bx 2),.arr 58 bx false]⟩
def Sk:Shape:=⟨[(0,dC)],[.loop 1013600 [(12,.ptr 1 (.list bx) 0 [])],.box 64 (.list bx) (.own bx 3),.gone,.arr 58 bx false]⟩
def ahd:aY:=⟨1013600,Sj,Sk,IH⟩
def ahe:bn:=cr [] [] 3
theorem ayN (d:Sj.ty.den): @Eq (O Sk.ty.den) (ss ahe gb 1013600 (ko Tryz.f136 0) Sj Sk d).val (IH d):=aC
theorem ayO:bc ahd:=
  FT (F:=ahe) (c:=ko Tryz.f136 0) eA (bV ai) eO aC aC aC (m:=[]) aC ai aC ayN
def afZ:bK:=⟨⟨[(0,.own ac 0),(1,.fn 169 [] [(.ptr 1 ac 0 [])]),(7,aK),(8,aK)],uj⟩,.ret,⟨[(4,aK)],uj⟩,(.exit 0),⟨[],uj⟩⟩
def afI:aY:=⟨116,⟨[(0,.own ac 0),(1,.fn 169 [] [(.ptr 1 ac 0 [])])],uj⟩,⟨[(0,aK)],uj⟩,Hn⟩
def Qn:bn:=cr [ahD] [(0,afZ.go Qt 2)] 2
theorem afV:cc bj (Qn).Γ:=bV ⟨alD,ai⟩
theorem awZ:cM Qn Tryz.f116 0 0:=cX (ax:=afZ) (b:=ci) (m:=[]) afV ai
theorem axp:bc afI:=cy (F:=Qn) (fn:=Tryz.f116) (m:=dt Tryz.f116 [0]) afV Tryz.func116 ⟨awZ,ai⟩
def afs:aY:=⟨71,⟨[(0,.own ac 0),(1,.fn 169 [] [(.ptr 1 ac 0 [])])],uj⟩,⟨[(0,dC)],uj⟩,ce⟩
def awF:bn:=cr [afI] [] 2
theorem awJ:bc afs:=cy (F:=awF) (fn:=Tryz.f71) (m:=[]) (bV ⟨axp,ai⟩) Tryz.func71 ai
def x2:bK:=⟨⟨[(0,.yld 1013600 0),(1,.ptr 1 .opq 0 []),(41,.own bx 8),(42,aK),(43,aK)],[.loop 1013600 [(12,.ptr 5 (.list bx) 0 [])],.box 141 .opq (.ptr 6 fN 0 []),.box 3 (.int .i64) aK,.box 39 ac (.dat ac),.box 62 (.list ac) (.dat (.list ac)),.box 64 (.list bx) (.own bx 9),.box 143 fN mM,.gone,.arr 58 bx false,.arr 58 bx false]⟩,.ret,KI,(.exit 0),KI⟩
def Sw:Shape:=⟨[(0,.yld 1013600 0),(1,.ptr 1 .opq 0 []),(2,.ptr 2 (.int .i64) 0 []),(3,.ptr 3 ac 0 []),(4,.ptr 4 (.list ac) 0 [])],[.loop 1013600 [(12,.ptr 5 (.list bx) 0 [])],.box 141 .opq (.ptr 6 fN 0 []),.box 3 (.int .i64) aK,.box 39 ac (.dat ac),.box 62 (.list ac) (.dat (.list ac)),.box 64 (.list bx) (.own bx 7),.box 143 fN mM,.arr 58 bx false]⟩
def Sx:Shape:=KI
def Sv (cZ:(cE×aL×au×bB×Int×H)->O (aj×bB×Int×H)):aY:=⟨135,Sw,Sx,sG cZ⟩
def Ca (cZ:(cE×aL×au×bB×Int×H)->O (aj×bB×Int×H)):bn:=cr [tv,tp,(pR cZ),N3,LM,ahd] [(0,x2.go (x0 cZ) 8)] 8
theorem ayY (cZ:(cE×aL×au×bB×Int×H)->O (aj×bB×Int×H)) (d:x2.S.ty.den): @Eq (O (x2.S.ty.den⊕x2.Out)) (x2.body (Ca cZ) (hk (b4 Tryz.f135) 0) 0 d).val (sD cZ d):=aC
theorem aln (cZ:(cE×aL×au×bB×Int×H)->O (aj×bB×Int×H)) (d:Sw.ty.den): @Eq (O Sx.ty.den) (l9 (Ca cZ) Tryz.f135 Sw Sx d).val (sG cZ d):=aC
theorem ahr (cZ:(cE×aL×au×bB×Int×H)->O (aj×bB×Int×H)) (kA:cz bj (pR cZ)):cc bj (Ca cZ).Γ:=bV ⟨zp,zi,(kA.x aC),abC,Ym,ayO,ai⟩
theorem ay4 (cZ:(cE×aL×au×bB×Int×H)->O (aj×bB×Int×H)) (kA:cz bj (pR cZ)):hl bj (Ca cZ) Tryz.f135.ntmps 0 (hk (b4 Tryz.f135) 0):=
  rP eA (ahr cZ kA) eO (ax:=x2) (f:=x0 cZ) (b:=sD cZ) (m:=[]) (λ_=>rfl) aC aC ai aC (eS _ aC) (ayY cZ)
theorem alo (cZ:(cE×aL×au×bB×Int×H)->O (aj×bB×Int×H)) (kA:cz bj (pR cZ)):cz bj (Sv cZ):=
  rO (F:=(Ca cZ)) eA (ahr cZ kA) eO (fn:=Tryz.f135) (m:=dt Tryz.f135 [0]) Tryz.func135 aC aC aC ⟨ay4 cZ kA,ai⟩ (eS _ aC) aC (aln cZ)
theorem alp (cZ:(cE×aL×au×bB×Int×H)->O (aj×bB×Int×H)) (kA:cz bj (pR cZ)):aux bj (Sv cZ):=(alo cZ kA).x aC
def x3:bK:=dY ⟨[(0,.ptr 0 fN 0 []),(5,.ptr 1 et 0 []),(6,.ptr 2 ac 0 []),(8,.dat (.list bx)),(9,.own ac 3),(16,.dat (.list ac)),(17,aK),(18,aK)],Uq⟩ 0 ⟨[(0,.ptr 0 fN 0 []),(5,.ptr 1 et 0 []),(6,.ptr 2 ac 0 []),(8,.dat (.list bx)),(9,.own ac 3)],Uq⟩
def x4:bK:=⟨⟨[(0,.ptr 0 fN 0 []),(5,.ptr 1 et 0 []),(8,.dat (.list bx)),(9,.own ac 2),(12,.ptr 3 (.list bx) 0 []),(31,.own ac 4),(32,aK),(33,aK)],[.box 143 fN mM,.box 85 et (.dat et),.arr 39 ac true,.box 64 (.list bx) (.own bx 5),.arr 39 ac false,.arr 58 bx false]⟩,.ret,⟨[(8,.dat (.list bx))],[.box 143 fN mM]⟩,(.exit 2),⟨[(12,.ptr 1 (.list bx) 0 [])],[.box 143 fN mM,.box 64 (.list bx) (.own bx 2),.arr 58 bx false]⟩⟩
def SL:aY:=⟨136,x8,x9,I2⟩
def vf (cZ:(cE×aL×au×bB×Int×H)->O (aj×bB×Int×H)):bn:={cx:=hC,Γ:=hP [acl,SM,(pR cZ),LI,afs,(Sv cZ)],Λ:=λk st=>bif Nat.beq k 0 then x3.go (IP cZ) 1 st else bif Nat.beq k 2 then x4.go (IQ cZ) 1 st else .fail,keep:=λ_=>none,m:=1,rfs:=λk=>bif Nat.beq k 13 then some 1013600 else none,its:=[135]}
theorem alx (cZ:(cE×aL×au×bB×Int×H)->O (aj×bB×Int×H)) (d:x3.S.ty.den): @Eq (O (x3.S.ty.den⊕x3.Out)) (x3.body (vf cZ) (hk (b4 Tryz.f136) 0) 0 d).val (yb cZ d):=aC
theorem aly (cZ:(cE×aL×au×bB×Int×H)->O (aj×bB×Int×H)) (d:x4.S.ty.den): @Eq (O (x4.S.ty.den⊕x4.Out)) (x4.body (vf cZ) (hk (b4 Tryz.f136) 1) 2 d).val (vg cZ d):=aC
theorem al4 (cZ:(cE×aL×au×bB×Int×H)->O (aj×bB×Int×H)) (d:x8.ty.den): @Eq (O x9.ty.den) (l9 (vf cZ) Tryz.f136 x8 x9 d).val (C5 cZ d):=aC
theorem SK (cZ:(cE×aL×au×bB×Int×H)->O (aj×bB×Int×H)) (kA:cz bj (pR cZ)):cc bj (vf cZ).Γ:=bV ⟨ZK,ah1,(kA.x aC),ao5,awJ,(alp cZ kA),ai⟩
theorem alK (cZ:(cE×aL×au×bB×Int×H)->O (aj×bB×Int×H)) (kA:cz bj (pR cZ)):hl bj (vf cZ) Tryz.f136.ntmps 0 (hk (b4 Tryz.f136) 0):=
  rP eA (SK cZ kA) eO (ax:=x3) (f:=IP cZ) (b:=yb cZ) (m:=[]) (λ_=>rfl) aC aC ai aC (eS _ aC) (alx cZ)
theorem alL (cZ:(cE×aL×au×bB×Int×H)->O (aj×bB×Int×H)) (kA:cz bj (pR cZ)):hl bj (vf cZ) Tryz.f136.ntmps 2 (hk (b4 Tryz.f136) 1):=
  rP eA (SK cZ kA) eO (ax:=x4) (f:=IQ cZ) (b:=vg cZ) (m:=[]) (λ_=>rfl) aC aC ai aC (Bd (m:=[(13,ko Tryz.f136 0)]) (its:=[135]) aC ⟨Bo (Y:=1013600) aC aC,ai⟩ aC ⟨⟨_,Tryz.func135,aC,aC⟩,ai⟩) (aly cZ)
theorem alm (cZ:(cE×aL×au×bB×Int×H)->O (aj×bB×Int×H)) (kA:cz bj (pR cZ)):cz bj ⟨136,x8,x9,C5 cZ⟩:=
  rO (F:=(vf cZ)) eA (SK cZ kA) eO (fn:=Tryz.f136) (m:=dt Tryz.f136 [0,2]) Tryz.func136 aC aC aC ⟨alK cZ kA,alL cZ kA,ai⟩ (Bd (m:=[(13,ko Tryz.f136 0)]) (its:=[135]) aC ⟨Bo (Y:=1013600) aC aC,ai⟩ aC ⟨⟨_,Tryz.func135,aC,aC⟩,ai⟩) aC (al4 cZ)
theorem ahq: ∀n,cz bj ⟨136,x8,x9,qS n⟩
  |0=>AR
  |n+1=>alm _ (ahq n)
theorem al5:cz bj SL:=ahq jf
theorem al6:bc SL:=(al5).x aC
def SF:Shape:=⟨[(0,.yld 1002700 0),(1,.dat bx)],[.loop 1002700 [(7,.ptr 1 (.list bx) 0 [])],.box 64 (.list bx) (.own bx 2),.arr 58 bx false]⟩
def SG:Shape:=⟨[(0,dC)],[.loop 1002700 [(7,.ptr 1 (.list bx) 0 [])],.box 64 (.list bx) (.own bx 3),.gone,.arr 58 bx false]⟩
def ahJ:aY:=⟨1002700,SF,SG,IV⟩
def ahK:bn:=cr [] [] 3
theorem alI (d:SF.ty.den): @Eq (O SG.ty.den) (ss ahK gb 1002700 (ko Tryz.f27 0) SF SG d).val (IV d):=aC
theorem alJ:bc ahJ:=
  FT (F:=ahK) (c:=ko Tryz.f27 0) eA (bV ai) eO aC aC aC (m:=[]) aC ai aC alI
def ahx:bK:=⟨⟨[(0,.yld 1002700 0),(1,.ptr 1 .opq 0 []),(41,.own bx 7),(42,aK),(43,aK)],[.loop 1002700 [(7,.ptr 5 (.list bx) 0 [])],.box 141 .opq (.ptr 6 fN 0 []),.box 3 (.int .i64) aK,.box 39 ac (.dat ac),.box 62 (.list ac) (.dat (.list ac)),.box 64 (.list bx) (.own bx 8),.box 143 fN mM,.arr 58 bx false,.arr 58 bx false]⟩,.ret,KJ,(.exit 0),KJ⟩
def ahE:aY:=⟨135,⟨[(0,.yld 1002700 0),(1,.ptr 1 .opq 0 []),(2,.ptr 2 (.int .i64) 0 []),(3,.ptr 3 ac 0 []),(4,.ptr 4 (.list ac) 0 [])],[.loop 1002700 [(7,.ptr 5 (.list bx) 0 [])],.box 141 .opq (.ptr 6 fN 0 []),.box 3 (.int .i64) aK,.box 39 ac (.dat ac),.box 62 (.list ac) (.dat (.list ac)),.box 64 (.list bx) (.nils 58 bx),.box 143 fN mM]⟩,KJ,vh⟩
def SE:bn:=cr [tv,tp,N3,LM,SL,ahJ] [(0,ahx.go x5 7)] 7
theorem ahR:cc bj (SE).Γ:=bV ⟨zp,zi,abC,Ym,al6,alJ,ai⟩
theorem alz:cM SE Tryz.f135 0 0:=cX (ax:=ahx) (b:=vb) (m:=[]) ahR ai
theorem alE:bc ahE:=cy (F:=SE) (fn:=Tryz.f135) (m:=dt Tryz.f135 [0]) ahR Tryz.func135 ⟨alz,ai⟩
def pu:Shape:=⟨[(0,.dat ht),(1,.dat ac)],[]⟩
def wc:Shape:=⟨[(0,.own bx 0),(1,aK)],oh⟩
def No:aY:=⟨27,pu,wc,ll⟩
def aap:bn:={cx:=hC,Γ:=hP [SM,ahE],Λ:=λk st=>.fail,keep:=λ_=>none,m:=0,rfs:=λk=>bif Nat.beq k 4 then some 1002700 else none,its:=[135]}
theorem aqH (d:pu.ty.den): @Eq (O wc.ty.den) (l9 aap Tryz.f27 pu wc d).val (ll d):=aC
theorem aaE:cz bj No:=
  rO (F:=aap) eA (bV ⟨ah1,alE,ai⟩) eO (fn:=Tryz.f27) (m:=[]) Tryz.func27 aC aC aC ai (Bd (m:=[(4,ko Tryz.f27 0)]) (its:=[135]) aC ⟨Bo (Y:=1002700) aC aC,ai⟩ aC ⟨⟨_,Tryz.func135,aC,aC⟩,ai⟩) aC aqH
theorem aqI:bc No:=(aaE).x aC
def W5:bK:=⟨⟨[(0,.dat (.list bx)),(1,.dat (.list bx)),(5,aK)],[]⟩,.ret,r4,(.exit 0),⟨[],[]⟩⟩
def DM:Shape:=Uv
def DO:Shape:=eC
def MJ:aY:=⟨29,DM,DO,wy⟩
def Md:bn:=cr [] [(0,W5.go Mz 0)] 0
theorem Y7:cc bj (Md).Γ:=bV ai
theorem aoL:cM Md Tryz.f29 0 0:=cX (ax:=W5) (b:=DX) (m:=[]) Y7 ai
theorem Y8:cz bj MJ:=pD (F:=Md) (fn:=Tryz.f29) (m:=dt Tryz.f29 [0]) Y7 Tryz.func29 ⟨aoL,ai⟩
theorem ap4:bc MJ:=Y8.x aC
def yY:Shape:=⟨[(0,.dat dk),(1,aK),(2,.dat ac),(3,aK)],[]⟩
def y0:Shape:=iA
def Ju (fR:(bB×Int×aL×Int×H)->O (Int×H)):aY:=⟨91,yY,y0,fR⟩
def Vn:bK:=⟨⟨[(9,.own iX 0),(10,aK),(11,aK)],[.arr 93 iX false]⟩,.ret,r3,(.exit 0),⟨[],[]⟩⟩
def Wr:aY:=⟨182,wN,eC,J6⟩
def Tm:bn:=cr [] [(0,Vn.go Ts 0)] 0
theorem Wo:cc bj (Tm).Γ:=bV ai
theorem amN:cM Tm Tryz.f182 0 0:=cX (ax:=Vn) (b:=Dk) (m:=[]) Wo ai
theorem am9:bc Wr:=cy (F:=Tm) (fn:=Tryz.f182) (m:=dt Tryz.f182 [0]) Wo Tryz.func182 ⟨amN,ai⟩
def Wc:bK:=⟨⟨[(0,.dat (.list bx)),(3,aK)],[]⟩,.ret,r3,(.exit 0),⟨[],[]⟩⟩
def X0:aY:=⟨180,uk,eC,FD⟩
def LX:bn:=cr [] [(0,Wc.go L7 0)] 0
theorem Yg:cc bj (LX).Γ:=bV ai
theorem anZ:cM LX Tryz.f180 0 0:=cX (ax:=Wc) (b:=DI) (m:=[]) Yg ai
theorem apG:bc X0:=cy (F:=LX) (fn:=Tryz.f180) (m:=dt Tryz.f180 [0]) Yg Tryz.func180 ⟨anZ,ai⟩
def Wq:aY:=⟨179,E0,eC,J5⟩
theorem am8:bc Wq:=cf (l:=[]) Tryz.func179 ai
def WK:aY:=⟨178,⟨[(0,.dat bx),(1,.ptr 0 ac 0 [])],jZ⟩,⟨[(0,dC)],jZ⟩,Ki⟩
def an3:bn:=cr [rc,Wq] [] 1
theorem aod:bc WK:=cy (F:=an3) (fn:=Tryz.f178) (m:=[]) (bV ⟨zs,am8,ai⟩) Tryz.func178 ai
end D
open Go Go.X Go.Proofs D
namespace D
def afw:bK:=⟨⟨[(0,.dat (.list bx)),(1,.fn 178 [] [(.ptr 0 ac 0 [])]),(7,aK),(8,aK)],jZ⟩,.ret,⟨[(4,aK)],jZ⟩,(.exit 0),⟨[],jZ⟩⟩
def afF:aY:=⟨219,⟨[(0,.dat (.list bx)),(1,.fn 178 [] [(.ptr 0 ac 0 [])])],jZ⟩,⟨[(0,aK)],jZ⟩,Hl⟩
def Qk:bn:=cr [WK] [(0,afw.go Hw 1)] 1
theorem afS:cc bj (Qk).Γ:=bV ⟨aod,ai⟩
theorem awW:cM Qk Tryz.f219 0 0:=cX (ax:=afw) (b:=se) (m:=[]) afS ai
theorem axn:bc afF:=cy (F:=Qk) (fn:=Tryz.f219) (m:=dt Tryz.f219 [0]) afS Tryz.func219 ⟨awW,ai⟩
def afE:aY:=⟨181,⟨[(0,.dat (.list bx)),(1,.fn 178 [] [(.ptr 0 ac 0 [])])],jZ⟩,⟨[(0,dC)],jZ⟩,Hk⟩
def axj:bn:=cr [afF] [] 1
theorem axm:bc afE:=cy (F:=axj) (fn:=Tryz.f181) (m:=[]) (bV ⟨axn,ai⟩) Tryz.func181 ai
def Js:aY:=⟨321,gw,um,Mo⟩
theorem Wl:bc Js:=cf (l:=[]) Tryz.func321 ai
def Jn:aY:=⟨334,gw,um,Mj⟩
theorem Wg:bc Jn:=cf (l:=[]) Tryz.func334 ai
def Jb:aY:=⟨345,gw,um,Lw⟩
theorem VL:bc Jb:=cf (l:=[]) Tryz.func345 ai
def Je:aY:=⟨352,gw,⟨jQ,cA⟩,Ly⟩
theorem VO:bc Je:=cf (l:=[pX]) Tryz.func352 ⟨rz,ai⟩
def I3:aY:=⟨362,gw,⟨jQ,cA⟩,TI⟩
theorem Vq:bc I3:=cf (l:=[pX]) Tryz.func362 ⟨rz,ai⟩
def I6:aY:=⟨368,gw,⟨jQ,cA⟩,TN⟩
theorem Vw:bc I6:=cf (l:=[]) Tryz.func368 ai
def ZT:aY:=⟨187,gw,um,rQ⟩
noncomputable def aqx:bn:=ma hC (Fj hC (hP [Js,Jn,Jb,Je,I3,I6]) 110 Tryz.f110 (hP [Js,Jn,Jb,Je,I3,I6])) (λk st=>.fail) 0
theorem aqu:bc ZT:=cy (F:=aqx) (fn:=Tryz.f187) (m:=[]) (FF aC (F4 (F:=(ma hC (hP [Js,Jn,Jb,Je,I3,I6]) (λ_ _=>.fail) 0)) eA (bV ⟨Wl,Wg,VL,VO,Vq,Vw,ai⟩) eO Tryz.func110 aC aC aC) (bV ⟨Wl,Wg,VL,VO,Vq,Vw,ai⟩)) Tryz.func187 ai
def XW:aY:=⟨184,zW,eC,pk⟩
theorem apz:bc XW:=cf (l:=[IU,rA,rc]) Tryz.func184 ⟨S1,tn,zs,ai⟩
def Ty:aY:=⟨183,⟨[(0,.dat ac),(1,.ptr 0 ac 0 [])],jZ⟩,⟨[(0,dC)],jZ⟩,D8⟩
def an4:bn:=cr [XW] [] 1
theorem Xu:bc Ty:=cy (F:=an4) (fn:=Tryz.f183) (m:=[]) (bV ⟨apz,ai⟩) Tryz.func183 ai
def af0:bK:=⟨⟨[(0,.dat (.list ac)),(1,.fn 183 [] [(.ptr 0 ac 0 [])]),(7,aK),(8,aK)],jZ⟩,.ret,⟨[(4,aK)],jZ⟩,(.exit 0),⟨[],jZ⟩⟩
def afJ:aY:=⟨116,⟨[(0,.dat (.list ac)),(1,.fn 183 [] [(.ptr 0 ac 0 [])])],jZ⟩,⟨[(0,aK)],jZ⟩,QE⟩
def Qo:bn:=cr [Ty] [(0,af0.go Qu 1)] 1
theorem afW:cc bj (Qo).Γ:=bV ⟨Xu,ai⟩
theorem aw0:cM Qo Tryz.f116 0 0:=cX (ax:=af0) (b:=B0) (m:=[]) afW ai
theorem axq:bc afJ:=cy (F:=Qo) (fn:=Tryz.f116) (m:=dt Tryz.f116 [0]) afW Tryz.func116 ⟨aw0,ai⟩
def aft:aY:=⟨71,⟨[(0,.dat (.list ac)),(1,.fn 183 [] [(.ptr 0 ac 0 [])])],jZ⟩,⟨[(0,dC)],jZ⟩,Hu⟩
def awG:bn:=cr [afJ] [] 1
theorem awK:bc aft:=cy (F:=awG) (fn:=Tryz.f71) (m:=[]) (bV ⟨axq,ai⟩) Tryz.func71 ai
def af1:bK:=⟨⟨[(0,.own ac 0),(1,.fn 183 [] [(.ptr 1 ac 0 [])]),(7,aK),(8,aK)],ui⟩,.ret,⟨[(4,aK)],ui⟩,(.exit 0),⟨[],ui⟩⟩
def afK:aY:=⟨116,⟨[(0,.own ac 0),(1,.fn 183 [] [(.ptr 1 ac 0 [])])],ui⟩,⟨[(0,aK)],ui⟩,QF⟩
def Qp:bn:=cr [Ty] [(0,af1.go Qv 2)] 2
theorem afX:cc bj (Qp).Γ:=bV ⟨Xu,ai⟩
theorem aw1:cM Qp Tryz.f116 0 0:=cX (ax:=af1) (b:=B1) (m:=[]) afX ai
theorem axr:bc afK:=cy (F:=Qp) (fn:=Tryz.f116) (m:=dt Tryz.f116 [0]) afX Tryz.func116 ⟨aw1,ai⟩
def afu:aY:=⟨71,⟨[(0,.own ac 0),(1,.fn 183 [] [(.ptr 1 ac 0 [])])],ui⟩,⟨[(0,dC)],ui⟩,Hv⟩
def awH:bn:=cr [afK] [] 2
theorem awL:bc afu:=cy (F:=awH) (fn:=Tryz.f71) (m:=[]) (bV ⟨axr,ai⟩) Tryz.func71 ai
def WL:aY:=⟨186,⟨[(0,.dat dw),(1,.ptr 0 .opq 0 [])],qy⟩,⟨[(0,dC)],qy⟩,Kj⟩
def an5:bn:=cr [YH,Nh,ZT,aft,afu] [] 2
theorem aoe:bc WL:=cy (F:=an5) (fn:=Tryz.f186) (m:=[]) (bV ⟨apq,aab,aqu,awK,awL,ai⟩) Tryz.func186 ai
def afP:bK:=⟨⟨[(0,.dat (.list dw)),(1,.fn 186 [] [(.ptr 0 .opq 0 [])]),(7,aK),(8,aK)],qy⟩,.ret,⟨[(4,aK)],qy⟩,(.exit 0),⟨[],qy⟩⟩
def agc:aY:=⟨115,⟨[(0,.dat (.list dw)),(1,.fn 186 [] [(.ptr 0 .opq 0 [])])],qy⟩,⟨[(0,aK)],qy⟩,Sa⟩
def Qi:bn:=cr [WL] [(0,afP.go QI 2)] 2
theorem agi:cc bj (Qi).Γ:=bV ⟨aoe,ai⟩
theorem axf:cM Qi Tryz.f115 0 0:=cX (ax:=afP) (b:=BL) (m:=[]) agi ai
theorem axD:bc agc:=cy (F:=Qi) (fn:=Tryz.f115) (m:=dt Tryz.f115 [0]) agi Tryz.func115 ⟨axf,ai⟩
def af9:aY:=⟨185,⟨[(0,.dat (.list dw)),(1,.fn 186 [] [(.ptr 0 .opq 0 [])])],qy⟩,⟨[(0,dC)],qy⟩,Ht⟩
def axH:bn:=cr [agc] [] 2
theorem axA:bc af9:=cy (F:=axH) (fn:=Tryz.f185) (m:=[]) (bV ⟨axD,ai⟩) Tryz.func185 ai
def WW:bK:=⟨⟨[(2,.ptr 0 et 0 []),(3,.ptr 1 ac 0 []),(6,c4),(67,.dat (.list .str)),(68,aK),(69,aK)],EI⟩,.ret,r4,(.exit 0),⟨[(2,.ptr 0 et 0 []),(3,.ptr 1 ac 0 [])],EI⟩⟩
def WX:bK:=⟨⟨[(2,.ptr 0 et 0 []),(3,.ptr 1 ac 0 []),(90,.dat (.list (.int .i64))),(91,aK),(92,aK)],EI⟩,.ret,r4,(.exit 2),⟨[(2,.ptr 0 et 0 []),(3,.ptr 1 ac 0 [])],EI⟩⟩
def YJ:aY:=⟨148,KT,eC,tH⟩
def J0:bn:=cr [Wr,X0,afE,af9] [(0,WW.go Mr 0),(2,WX.go Ms 0)] 0
theorem Mq:cc bj (J0).Γ:=bV ⟨am9,apG,axm,axA,ai⟩
theorem ao0:cM J0 Tryz.f148 0 0:=cX (ax:=WW) (b:=vX) (m:=[]) Mq ai
theorem ao1:cM J0 Tryz.f148 2 1:=cX (ax:=WX) (b:=DR) (m:=[]) Mq ai
theorem apv:bc YJ:=cy (F:=J0) (fn:=Tryz.f148) (m:=dt Tryz.f148 [0,2]) Mq Tryz.func148 ⟨ao0,ao1,ai⟩
def MF:aY:=⟨189,⟨[(0,.ptr 0 eJ 0 [0]),(1,aK),(2,aK)],[.box 95 eJ mN]⟩,⟨[],[.box 95 eJ mN]⟩,tG⟩
def apf:bn:=cr [] [] 1
theorem ZL:bc MF:=cy (F:=apf) (fn:=Tryz.f189) (m:=[]) (bV ai) Tryz.func189 ai
def Tk:aY:=⟨189,⟨[(0,.ptr 0 eJ 0 [1]),(1,aK),(2,aK)],[.box 95 eJ mN]⟩,⟨[],[.box 95 eJ mN]⟩,tl⟩
def amY:bn:=cr [] [] 1
theorem Wn:bc Tk:=cy (F:=amY) (fn:=Tryz.f189) (m:=[]) (bV ai) Tryz.func189 ai
def HH:aY:=⟨297,wQ,iA,Sp⟩
set_option maxHeartbeats 1000000 in
theorem ayc (a:ByteArray) (c:Int) (w:World):Calls bj 297 #[.string a,.int .u8 c] w λe aq=>e=.returned (.int .i64 (Lib.indexByte a.data.toList c.toNat.toUInt8))/\aq=w:=by
  go_enter Tryz.func297,Tryz.ntmps297
  go_wp2
  rw[run_callFunc_extern Tryz.func301 aC aC aC (e:=Extern.BytealgIndexByte.indexByte) aC,Lib.run_indexByteString]
  simp only[Result.andThen]
  rw[Oper.upon_value]
  go_wp2
  go_ret
  exact ⟨rfl,rfl⟩
theorem ayA:cz bj HH:=akW (g:=λa c=>Lib.indexByte a c.toNat.toUInt8) Tryz.func297 aC ayc
theorem ag5:bc HH:=ayA.x aC
def ah2:aY:=⟨288,wQ,iA,VY⟩
theorem al9:bc ah2:=cf (l:=[HH]) Tryz.func288 ⟨ag5,ai⟩
def ahv:aY:=⟨289,⟨[(0,.dat (.int .i32))],[]⟩,eC,ahS⟩
theorem alk:bc ahv:=cf (l:=[]) Tryz.func289 ai
def ahL:bK:=⟨⟨[(175,.ptr 0 .unit 0 [])],[.iter]⟩,.ret,⟨[(4,aK)],[]⟩,(.exit 9),⟨[],[]⟩⟩
def ah4:aY:=⟨271,⟨[(0,c4),(1,.dat (.int .i32))],[]⟩,iA,Jl⟩
def ve:bn:=cr [ah2,ahv] [(9,ahL.go aii 0)] 0
theorem aif:cc bj (ve).Γ:=bV ⟨al9,alk,ai⟩
theorem alX:cM ve Tryz.f271 1 1:=w6 (λ_=>rfl)
theorem alY:cM ve Tryz.f271 3 2:=w6 (λ_=>rfl)
end D
