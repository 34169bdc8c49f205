import Derived.Test.YtmmmpanpbphkdaaGreatDoorEb
set_option linter.unusedVariables false
set_option maxRecDepth 100000
open Go Go.X Go.Proofs D
namespace D
def afy:Shape:=hg
def Pz:aS:=⟨254,afx,afy,Tl⟩
theorem ajb:cc Tryz.prog Pz:=aaK (f:=254) (S:=afx) (Z:=afy) (g1:=PN) (g2:=yC) aiD (anH Tryz.lays153 (by kernel_rfl) Tryz.func254 (by kernel_rfl))
theorem ajc:aV Pz:=ajb.x (by kernel_rfl)
def Sl:aS:=⟨241,⟨[(0,.ptr 0 Gx 0 [0])],Ci⟩,⟨[(0,cn),(1,.dat (.int .u8))],Ci⟩,Vu⟩
def ajs:a8:=bW [Pz] [] 1
theorem ajP:aV Sl:=ca (F:=ajs) (fn:=Tryz.f241) (m:=[]) (bE ⟨ajc,trivial⟩) Tryz.func241 trivial
def afK:aS:=⟨224,⟨[(0,.ptr 0 Gx 0 [])],Ci⟩,⟨[],Ci⟩,TL⟩
def ajg:a8:=bW [Pn,Sl] [] 1
theorem ajq:aV afK:=ca (F:=ajg) (fn:=Tryz.f224) (m:=[]) (bE ⟨afd,ajP,trivial⟩) Tryz.func224 trivial
def aev:aS:=⟨292,hZ,hg,aex⟩
def aer:a8:=mm [E8]
theorem avB:cg aer Tryz.f292 1 0:=uG (fun _=>rfl)
theorem avL:aV aev:=ca (F:=aer) (fn:=Tryz.f292) (m:=cK Tryz.f292 [1]) (bE ⟨aed,trivial⟩) Tryz.func292 ⟨avB,trivial⟩
def aey:aS:=⟨275,hZ,⟨[(0,cn),(1,cn),(2,cX)],[]⟩,aeP⟩
theorem avN:aV aey:=bP (l:=[aev]) Tryz.func275 ⟨avL,trivial⟩
def Us:aS:=⟨255,hZ,⟨[(0,cn),(1,cn),(2,cX)],[]⟩,Yg⟩
theorem alI:aV Us:=bP (l:=[aey]) Tryz.func255 ⟨avN,trivial⟩
def SV:aS:=⟨258,⟨[(0,.dat (.int .i32))],[]⟩,dG,We⟩
theorem ajS:aV SV:=bP (l:=[]) Tryz.func258 trivial
def ae6:bq:=⟨⟨[(1,.fn 258 [] []),(2,cX),(10,.ptr 0 .unit 0 [])],[.iter]⟩,.ret,⟨[(6,aI)],[]⟩,(.exit 0),⟨[],[]⟩⟩
def afq:aS:=⟨282,⟨[(0,cn),(1,.fn 258 [] []),(2,cX)],[]⟩,hg,SB⟩
def Pp:a8:=bW [SV] [(0,ae6.go afl 0)] 0
theorem afk:bL Tryz.prog (Pp).Γ:=bE ⟨ajS,trivial⟩
theorem aiK:cg Pp Tryz.f282 0 0:=cm (L:=ae6) (b:=afj) (m:=[]) afk trivial
theorem aiT:aV afq:=ca (F:=Pp) (fn:=Tryz.f282) (m:=cK Tryz.f282 [0]) afk Tryz.func282 ⟨aiK,trivial⟩
def afo:aS:=⟨257,⟨[(0,cn),(1,.fn 258 [] [])],[]⟩,hg,Sy⟩
theorem aiR:aV afo:=bP (l:=[afq]) Tryz.func257 ⟨aiT,trivial⟩
def QQ:aS:=⟨244,fN,dG,Ku⟩
theorem Vt:aV QQ:=bP (l:=[afo]) Tryz.func244 ⟨aiR,trivial⟩
def Ud:bq:=⟨fN,.ret,p8,(.exit 0),⟨[],[]⟩⟩
def IP:aS:=⟨242,fN,dG,KL⟩
def I1:a8:=bW [Us,QQ] [(0,Ud.go Wc 0)] 0
theorem Wb:bL Tryz.prog (I1).Γ:=bE ⟨alI,Vt,trivial⟩
theorem alK:cg I1 Tryz.f242 0 0:=cm (L:=Ud) (b:=Wa) (m:=[]) Wb trivial
theorem Wd:aV IP:=ca (F:=I1) (fn:=Tryz.f242) (m:=cK Tryz.f242 [0]) Wb Tryz.func242 ⟨alK,trivial⟩
def aew:bq:=c4 uj 0 fN
def aeL:aS:=⟨277,uj,fN,wn⟩
def Pc:a8:=bW [] [(0,aew.go aeO 0)] 0
theorem aeN:bL Tryz.prog (Pc).Γ:=bE trivial
theorem ah6:cg Pc Tryz.f277 0 0:=cm (L:=aew) (b:=aeM) (m:=[]) aeN trivial
theorem ah8:aV aeL:=ca (F:=Pc) (fn:=Tryz.f277) (m:=cK Tryz.f277 [0]) aeN Tryz.func277 ⟨ah6,trivial⟩
def aeH:bq:=c4 uj 0 fN
def aeW:aS:=⟨276,uj,fN,afm⟩
def Pa:a8:=bW [] [(0,aeH.go aeT 0)] 0
theorem aeS:bL Tryz.prog (Pa).Γ:=bE trivial
theorem aih:cg Pa Tryz.f276 0 0:=cm (L:=aeH) (b:=aeR) (m:=[]) aeS trivial
theorem aik:aV aeW:=ca (F:=Pa) (fn:=Tryz.f276) (m:=cK Tryz.f276 [0]) aeS Tryz.func276 ⟨aih,trivial⟩
def ajr:aS:=⟨256,hZ,fN,Iw⟩
def ajt:a8:=mm [aeL,aeW]
theorem ajM:cc Tryz.prog ajr:=nJ (F:=ajt) (fn:=Tryz.f256) (m:=[]) (bE ⟨ah8,aik,trivial⟩) Tryz.func256 trivial
def TF:Shape:=hZ
def TG:Shape:=fN
def Qj:aS:=⟨256,TF,TG,Xx⟩
theorem aky:cc Tryz.prog Qj:=aaK (f:=256) (S:=TF) (Z:=TG) (g1:=Iw) (g2:=yy) ajM (af6 Tryz.lays160 (by kernel_rfl) Tryz.func256 (by kernel_rfl))
theorem akz:aV Qj:=aky.x (by kernel_rfl)
end D
open Go Go.X Go.Proofs D
namespace D
def UP:aS:=⟨243,fN,dG,XU⟩
theorem alL:aV UP:=bP (l:=[Qj]) Tryz.func243 ⟨akz,trivial⟩
def qI:bq:=⟨⟨[(1,.ptr 0 fZ 0 []),(86,cX)],uu⟩,.nrm,⟨[],[]⟩,.ret,xQ⟩
def qH:bq:=⟨⟨[(1,.ptr 0 fZ 0 []),(4,.ptr 1 fZ 0 []),(66,cX)],Ch⟩,.nrm,⟨[],[]⟩,.ret,xQ⟩
def qG:bq:=⟨⟨[(1,.ptr 0 fZ 0 []),(4,.ptr 1 fZ 0 []),(35,cX)],Ch⟩,.nrm,⟨[],[]⟩,.ret,xQ⟩
def qF:bq:=⟨⟨[(1,.ptr 0 fZ 0 []),(4,.ptr 1 fZ 0 []),(23,cX)],Ch⟩,.nrm,⟨[],[]⟩,.ret,xQ⟩
def qJ:bq:=⟨⟨[(1,.ptr 0 fZ 0 []),(4,.ptr 1 fZ 0 []),(22,cX)],Ch⟩,.nrm,⟨[],[]⟩,.ret,xQ⟩
def tF:aS:=⟨225,Cx,⟨[(0,cn),(1,aI)],[]⟩,Z9⟩
def jh:a8:=mm [QQ,IP,UP]
def mO:j4:=[(100010,qI.go tq 0),(100008,qH.go q5 0),(100006,qG.go pb 0),(100004,qF.go tp 0),(300003,qJ.go q6 0)]
theorem ai5 (s:qI.S.ty.den): @Eq (Option qI.Out) ((fq jh mO (dZ (bJ Tryz.f225) 100010) 0 (qI.S.enc s)).bind fun (e,st)=>qI.out (jh).m e st).val (tq s):=by kernel_rfl
theorem ai3 (s:qH.S.ty.den): @Eq (Option qH.Out) ((fq jh mO (dZ (bJ Tryz.f225) 100008) 0 (qH.S.enc s)).bind fun (e,st)=>qH.out (jh).m e st).val (q5 s):=by kernel_rfl
theorem ai1 (s:qG.S.ty.den): @Eq (Option qG.Out) ((fq jh mO (dZ (bJ Tryz.f225) 100006) 0 (qG.S.enc s)).bind fun (e,st)=>qG.out (jh).m e st).val (pb s):=by kernel_rfl
theorem aiZ (s:qF.S.ty.den): @Eq (Option qF.Out) ((fq jh mO (dZ (bJ Tryz.f225) 100004) 0 (qF.S.enc s)).bind fun (e,st)=>qF.out (jh).m e st).val (tp s):=by kernel_rfl
theorem ai7 (s:qJ.S.ty.den): @Eq (Option qJ.Out) ((fq jh mO (dZ (bJ Tryz.f225) 300003) 0 (qJ.S.enc s)).bind fun (e,st)=>qJ.out (jh).m e st).val (q6 s):=by kernel_rfl
theorem aoE (s:(tF).S.ty.den):(qu jh mO Tryz.f225 (tF).S (tF).Z s).val=(tF).g s:=by kernel_rfl
theorem xc:bL Tryz.prog (jh).Γ:=bE ⟨Vt,Wd,alL,trivial⟩
theorem ai6:ic Tryz.prog jh Tryz.f225.ntmps (qI.go tq 0) (dZ (bJ Tryz.f225) 100010):=
  kg dE xc dN (L:=qI) (k:=0) (f:=tq) (C:=mO) (l:=[]) (m:=[]) (by kernel_rfl) trivial (by kernel_rfl) trivial (by kernel_rfl) (dQ _ (by kernel_rfl)) ai5
theorem ai4:ic Tryz.prog jh Tryz.f225.ntmps (qH.go q5 0) (dZ (bJ Tryz.f225) 100008):=
  kg dE xc dN (L:=qH) (k:=0) (f:=q5) (C:=mO) (l:=[]) (m:=[(qI.go tq 0,dZ (bJ Tryz.f225) 100010)]) (by kernel_rfl) trivial (by kernel_rfl) ⟨ai6,trivial⟩ (by kernel_rfl) (dQ _ (by kernel_rfl)) ai3
theorem ai2:ic Tryz.prog jh Tryz.f225.ntmps (qG.go pb 0) (dZ (bJ Tryz.f225) 100006):=
  kg dE xc dN (L:=qG) (k:=0) (f:=pb) (C:=mO) (l:=[]) (m:=[(qH.go q5 0,dZ (bJ Tryz.f225) 100008)]) (by kernel_rfl) trivial (by kernel_rfl) ⟨ai4,trivial⟩ (by kernel_rfl) (dQ _ (by kernel_rfl)) ai1
theorem ai0:ic Tryz.prog jh Tryz.f225.ntmps (qF.go tp 0) (dZ (bJ Tryz.f225) 100004):=
  kg dE xc dN (L:=qF) (k:=0) (f:=tp) (C:=mO) (l:=[]) (m:=[(qG.go pb 0,dZ (bJ Tryz.f225) 100006)]) (by kernel_rfl) trivial (by kernel_rfl) ⟨ai2,trivial⟩ (by kernel_rfl) (dQ _ (by kernel_rfl)) aiZ
theorem ai8:ic Tryz.prog jh Tryz.f225.ntmps (qJ.go q6 0) (dZ (bJ Tryz.f225) 300003):=
  kg dE xc dN (L:=qJ) (k:=0) (f:=q6) (C:=mO) (l:=[]) (m:=[(qF.go tp 0,dZ (bJ Tryz.f225) 100004)]) (by kernel_rfl) trivial (by kernel_rfl) ⟨ai0,trivial⟩ (by kernel_rfl) (dQ _ (by kernel_rfl)) ai7
theorem aoF:cc Tryz.prog tF:=
  x9 (C:=mO) (F:=jh) dE xc dN (fn:=Tryz.f225) (l:=[]) (m:=[(qJ.go q6 0,dZ (bJ Tryz.f225) 300003)]) Tryz.func225 (by kernel_rfl) (by kernel_rfl) (by kernel_rfl) trivial (by kernel_rfl) ⟨ai8,trivial⟩ (dQ _ (by kernel_rfl)) (by kernel_rfl) aoE
theorem aoG:aV tF:=(aoF).x (by kernel_rfl)
def G7:aS:=⟨191,fN,⟨[(0,.dat fZ),(1,aI)],[]⟩,x3⟩
theorem Jm:aV G7:=bP (l:=[afK,tF]) Tryz.func191 ⟨ajq,aoG,trivial⟩
def Wh:aS:=⟨190,⟨[(0,aI),(1,aI),(2,.ptr 0 .opq 0 []),(3,.ptr 1 dJ 0 [])],[.box 242 .opq (.fn 189 [] []),.box 95 dJ k4]⟩,⟨[],[.box 242 .opq (.fn 189 [] []),.box 95 dJ k4]⟩,Di⟩
def amK:a8:=bW [IN,P6] [] 2
theorem al9:aV Wh:=ca (F:=amK) (fn:=Tryz.f190) (m:=[]) (bE ⟨V3,Tw,trivial⟩) Tryz.func190 trivial
def Xh:aS:=⟨226,fN,hg,Dr⟩
theorem ana:aV Xh:=bP (l:=[IP,G7]) Tryz.func226 ⟨Wd,Jm,trivial⟩
def Wj:aS:=⟨192,hZ,dG,YG⟩
theorem amb:aV Wj:=bP (l:=[Xh]) Tryz.func192 ⟨ana,trivial⟩
def TZ:aS:=⟨223,Cy,r5,Xb⟩
theorem akH:aV TZ:=bP (l:=[G7]) Tryz.func223 ⟨Jm,trivial⟩
def S7:bq:=c4 ⟨[(2,.ptr 0 hA 0 []),(3,.ptr 1 hA 0 []),(7,.dat (.list ba)),(8,aI),(9,aI)],Cm⟩ 0 ⟨[(2,.ptr 0 hA 0 []),(3,.ptr 1 hA 0 [])],Cm⟩
def UO:aS:=⟨188,m2,r5,Yn⟩
def QD:a8:=bW [TZ] [(0,S7.go UM 0)] 0
theorem UL:bL Tryz.prog (QD).Γ:=bE ⟨akH,trivial⟩
theorem akI:cg QD Tryz.f188 0 0:=cm (L:=S7) (b:=UK) (m:=[]) UL trivial
theorem ak6:aV UO:=ca (F:=QD) (fn:=Tryz.f188) (m:=cK Tryz.f188 [0]) UL Tryz.func188 ⟨akI,trivial⟩
def VK:bq:=c4 ⟨[(1,.ptr 0 dp 0 []),(2,.ptr 1 dJ 0 []),(3,.ptr 2 dJ 0 []),(5,.ptr 3 .opq 0 []),(35,.dat (.list dJ)),(36,aI),(37,aI)],Rx⟩ 0 ⟨[(1,.ptr 0 dp 0 []),(2,.ptr 1 dJ 0 []),(3,.ptr 2 dJ 0 []),(5,.ptr 3 .opq 0 [])],Rx⟩
def VL:bq:=c4 ⟨[(2,.ptr 0 dJ 0 []),(3,.ptr 1 dJ 0 []),(5,.ptr 2 .opq 0 []),(8,.fn 190 [] [(.ptr 2 .opq 0 []),(.ptr 1 dJ 0 [])]),(62,.dat (.list cJ)),(63,aI),(64,aI)],[.box 95 dJ k4,.box 95 dJ k4,.box 242 .opq (.fn 189 [] [])]⟩ 2 ⟨[(2,.ptr 0 dJ 0 []),(3,.ptr 1 dJ 0 [])],[.box 95 dJ k4,.box 95 dJ k4]⟩
def Yl:aS:=⟨149,⟨[(0,.dat dp)],[]⟩,ug,Z6⟩
def CR:a8:=bW [IN,P6,G7,Wh,Wj,UO] [(0,VK.go XQ 0),(2,VL.go XR 0)] 0
theorem Kt:bL Tryz.prog (CR).Γ:=bE ⟨V3,Tw,Jm,al9,amb,ak6,trivial⟩
theorem am8:cg CR Tryz.f149 0 0:=cm (L:=VK) (b:=Ys) (m:=[]) Kt trivial
theorem am9:cg CR Tryz.f149 2 1:=cm (L:=VL) (b:=Yt) (m:=[]) Kt trivial
theorem aoB:aV Yl:=ca (F:=CR) (fn:=Tryz.f149) (m:=cK Tryz.f149 [0,2]) Kt Tryz.func149 ⟨am8,am9,trivial⟩
def wk:bq:=⟨⟨[(3,aI),(4,.ptr 0 c0 0 []),(9,.ptr 1 dp 0 []),(11,aI),(39,.own ac 2),(40,aI),(41,aI)],[.box 32 c0 (.dat c0),.box 85 dp (.dat dp),.arr 39 ac false]⟩,.ret,⟨[(8,aI)],[]⟩,(.exit 0),⟨[(11,aI)],[]⟩⟩
def QZ:aS:=⟨91,wG,wI,Yj⟩
def A1 (eT:(bO×Int×ah×Int×Unit)->Option (Int×Unit)):a8:=bW [rv,IM,rj,(GH eT),Wi,Yl] [(0,wk.go (IB eT) 0)] 0
theorem ajN (eT:(bO×Int×ah×Int×Unit)->Option (Int×Unit)) (s:wk.S.ty.den): @Eq (Option (wk.S.ty.den⊕wk.Out)) (wk.body (A1 eT) (fP (bJ Tryz.f91) 0) 0 s).val (Iz eT s):=by kernel_rfl
theorem amE (eT:(bO×Int×ah×Int×Unit)->Option (Int×Unit)) (s:wG.ty.den): @Eq (Option wI.ty.den) (ku (A1 eT) Tryz.f91 wG wI s).val (P3 eT s):=by kernel_rfl
theorem VF (eT:(bO×Int×ah×Int×Unit)->Option (Int×Unit)) (w9:cc Tryz.prog (GH eT)):bL Tryz.prog (A1 eT).Γ:=bE ⟨xd,V2,w1,(w9.x (by kernel_rfl)),ama,aoB,trivial⟩
theorem akD (eT:(bO×Int×ah×Int×Unit)->Option (Int×Unit)) (w9:cc Tryz.prog (GH eT)):fS Tryz.prog (A1 eT) Tryz.f91.ntmps 0 (fP (bJ Tryz.f91) 0):=
  pR dE (VF eT w9) dN (L:=wk) (f:=IB eT) (b:=Iz eT) (m:=[]) (fun _=>rfl) (by kernel_rfl) (by kernel_rfl) trivial (by kernel_rfl) (dQ _ (by kernel_rfl)) (ajN eT)
theorem ajf (eT:(bO×Int×ah×Int×Unit)->Option (Int×Unit)) (w9:cc Tryz.prog (GH eT)):cc Tryz.prog ⟨91,wG,wI,P3 eT⟩:=
  pQ (F:=(A1 eT)) dE (VF eT w9) dN (fn:=Tryz.f91) (m:=cK Tryz.f91 [0]) Tryz.func91 (by kernel_rfl) (by kernel_rfl) (by kernel_rfl) ⟨akD eT w9,trivial⟩ (dQ _ (by kernel_rfl)) (by kernel_rfl) (amE eT)
theorem afD: ∀n,cc Tryz.prog ⟨91,wG,wI,P2 n⟩
  |0=>yo
  |n+1=>ajf _ (afD n)
theorem amF:cc Tryz.prog QZ:=afD jB
theorem amG:aV QZ:=(amF).x (by kernel_rfl)
def Bq:Shape:=xR
def Bs:Shape:=dG
def amH:aS:=⟨31,Bq,Bs,KX⟩
def alX:a8:=mm [IZ,QZ]
theorem am2:cc Tryz.prog amH:=nJ (F:=alX) (fn:=Tryz.f31) (m:=[]) (bE ⟨Ww,amG,trivial⟩) Tryz.func31 trivial
def qL:bq:=⟨⟨[(1,.ptr 0 gj 0 []),(2,.ptr 1 ba 0 []),(3,cX),(4,aI),(7,cX),(8,aI),(10,.own ba 2),(16,.ptr 3 gj 0 []),(18,cX)],[.box 36 gj (.dat gj),.box 58 ba (.dat ba),.arr 58 ba false,.box 36 gj (.dat gj)]⟩,.ret,dG,(.exit 90000009),⟨[],[]⟩⟩
def GO:Shape:=⟨[],[]⟩
def GP:Shape:=dG
def Qa:aS:=⟨21,GO,GP,J7⟩
def wz (eE:(ct×af×Unit)->Option nD) (eG:(fc×Unit)->Option (ct×Int×Unit)) (eP:(ct×a6×Unit)->Option (ct×Int×Unit)) (eF:(ct×Unit)->Option (Int×Unit)) (eN:Unit->Option (ct×Unit)) (eQ:(ct×ah×Unit)->Option (Int×(List ak)×Unit)) (eO:((List ak)×(List ak)×Unit)->Option (Bool×Unit)) (eA:(ct×Unit)->Option (Bool×Unit)):a8:=mm [⟨81,tH,tI,eE⟩,⟨40,B3,B5,eG⟩,⟨15,B2,B4,eP⟩,⟨17,A3,A5,eF⟩,⟨80,A2,A4,eN⟩,⟨27,tB,tC,eQ⟩,⟨29,Bf,Br,eO⟩,⟨31,Bq,Bs,eA⟩]
def GL (eE:(ct×af×Unit)->Option nD) (eG:(fc×Unit)->Option (ct×Int×Unit)) (eP:(ct×a6×Unit)->Option (ct×Int×Unit)) (eF:(ct×Unit)->Option (Int×Unit)) (eN:Unit->Option (ct×Unit)) (eQ:(ct×ah×Unit)->Option (Int×(List ak)×Unit)) (eO:((List ak)×(List ak)×Unit)->Option (Bool×Unit)) (eA:(ct×Unit)->Option (Bool×Unit)):j4:=[(9,qL.go (nd eE eG eP eF eN eQ eO eA) 0)]
theorem ajm (eE:(ct×af×Unit)->Option nD) (eG:(fc×Unit)->Option (ct×Int×Unit)) (eP:(ct×a6×Unit)->Option (ct×Int×Unit)) (eF:(ct×Unit)->Option (Int×Unit)) (eN:Unit->Option (ct×Unit)) (eQ:(ct×ah×Unit)->Option (Int×(List ak)×Unit)) (eO:((List ak)×(List ak)×Unit)->Option (Bool×Unit)) (eA:(ct×Unit)->Option (Bool×Unit)) (s:qL.S.ty.den): @Eq (Option qL.Out) ((fq (wz eE eG eP eF eN eQ eO eA) (GL eE eG eP eF eN eQ eO eA) (dZ (bJ Tryz.f21) 9) 0 (qL.S.enc s)).bind fun (e,st)=>qL.out (wz eE eG eP eF eN eQ eO eA).m e st).val (nd eE eG eP eF eN eQ eO eA s):=by kernel_rfl
theorem akJ (eE:(ct×af×Unit)->Option nD) (eG:(fc×Unit)->Option (ct×Int×Unit)) (eP:(ct×a6×Unit)->Option (ct×Int×Unit)) (eF:(ct×Unit)->Option (Int×Unit)) (eN:Unit->Option (ct×Unit)) (eQ:(ct×ah×Unit)->Option (Int×(List ak)×Unit)) (eO:((List ak)×(List ak)×Unit)->Option (Bool×Unit)) (eA:(ct×Unit)->Option (Bool×Unit)) (s:GO.ty.den): @Eq (Option GP.ty.den) (qu (wz eE eG eP eF eN eQ eO eA) (GL eE eG eP eF eN eQ eO eA) Tryz.f21 GO GP s).val (PS eE eG eP eF eN eQ eO eA s):=by kernel_rfl
theorem TH (eE:(ct×af×Unit)->Option nD) (xq:cc Tryz.prog ⟨81,tH,tI,eE⟩) (eG:(fc×Unit)->Option (ct×Int×Unit)) (xt:cc Tryz.prog ⟨40,B3,B5,eG⟩) (eP:(ct×a6×Unit)->Option (ct×Int×Unit)) (xp:cc Tryz.prog ⟨15,B2,B4,eP⟩) (eF:(ct×Unit)->Option (Int×Unit)) (xr:cc Tryz.prog ⟨17,A3,A5,eF⟩) (eN:Unit->Option (ct×Unit)) (xn:cc Tryz.prog ⟨80,A2,A4,eN⟩) (eQ:(ct×ah×Unit)->Option (Int×(List ak)×Unit)) (xu:cc Tryz.prog ⟨27,tB,tC,eQ⟩) (eO:((List ak)×(List ak)×Unit)->Option (Bool×Unit)) (xo:cc Tryz.prog ⟨29,Bf,Br,eO⟩) (eA:(ct×Unit)->Option (Bool×Unit)) (xv:cc Tryz.prog ⟨31,Bq,Bs,eA⟩):bL Tryz.prog (wz eE eG eP eF eN eQ eO eA).Γ:=bE ⟨(xq.x (by kernel_rfl)),(xt.x (by kernel_rfl)),(xp.x (by kernel_rfl)),(xr.x (by kernel_rfl)),(xn.x (by kernel_rfl)),(xu.x (by kernel_rfl)),(xo.x (by kernel_rfl)),(xv.x (by kernel_rfl)),trivial⟩
theorem ajn (eE:(ct×af×Unit)->Option nD) (xq:cc Tryz.prog ⟨81,tH,tI,eE⟩) (eG:(fc×Unit)->Option (ct×Int×Unit)) (xt:cc Tryz.prog ⟨40,B3,B5,eG⟩) (eP:(ct×a6×Unit)->Option (ct×Int×Unit)) (xp:cc Tryz.prog ⟨15,B2,B4,eP⟩) (eF:(ct×Unit)->Option (Int×Unit)) (xr:cc Tryz.prog ⟨17,A3,A5,eF⟩) (eN:Unit->Option (ct×Unit)) (xn:cc Tryz.prog ⟨80,A2,A4,eN⟩) (eQ:(ct×ah×Unit)->Option (Int×(List ak)×Unit)) (xu:cc Tryz.prog ⟨27,tB,tC,eQ⟩) (eO:((List ak)×(List ak)×Unit)->Option (Bool×Unit)) (xo:cc Tryz.prog ⟨29,Bf,Br,eO⟩) (eA:(ct×Unit)->Option (Bool×Unit)) (xv:cc Tryz.prog ⟨31,Bq,Bs,eA⟩):ic Tryz.prog (wz eE eG eP eF eN eQ eO eA) Tryz.f21.ntmps (qL.go (nd eE eG eP eF eN eQ eO eA) 0) (dZ (bJ Tryz.f21) 9):=
  kg dE (TH eE xq eG xt eP xp eF xr eN xn eQ xu eO xo eA xv) dN (L:=qL) (k:=0) (f:=nd eE eG eP eF eN eQ eO eA) (C:=(GL eE eG eP eF eN eQ eO eA)) (l:=[]) (m:=[]) (by kernel_rfl) trivial (by kernel_rfl) trivial (by kernel_rfl) (dQ _ (by kernel_rfl)) (ajm eE eG eP eF eN eQ eO eA)
theorem aiU (eE:(ct×af×Unit)->Option nD) (xq:cc Tryz.prog ⟨81,tH,tI,eE⟩) (eG:(fc×Unit)->Option (ct×Int×Unit)) (xt:cc Tryz.prog ⟨40,B3,B5,eG⟩) (eP:(ct×a6×Unit)->Option (ct×Int×Unit)) (xp:cc Tryz.prog ⟨15,B2,B4,eP⟩) (eF:(ct×Unit)->Option (Int×Unit)) (xr:cc Tryz.prog ⟨17,A3,A5,eF⟩) (eN:Unit->Option (ct×Unit)) (xn:cc Tryz.prog ⟨80,A2,A4,eN⟩) (eQ:(ct×ah×Unit)->Option (Int×(List ak)×Unit)) (xu:cc Tryz.prog ⟨27,tB,tC,eQ⟩) (eO:((List ak)×(List ak)×Unit)->Option (Bool×Unit)) (xo:cc Tryz.prog ⟨29,Bf,Br,eO⟩) (eA:(ct×Unit)->Option (Bool×Unit)) (xv:cc Tryz.prog ⟨31,Bq,Bs,eA⟩):cc Tryz.prog ⟨21,GO,GP,PS eE eG eP eF eN eQ eO eA⟩:=
  x9 (C:=(GL eE eG eP eF eN eQ eO eA)) (F:=(wz eE eG eP eF eN eQ eO eA)) dE (TH eE xq eG xt eP xp eF xr eN xn eQ xu eO xo eA xv) dN (fn:=Tryz.f21) (l:=[]) (m:=[(qL.go (nd eE eG eP eF eN eQ eO eA) 0,dZ (bJ Tryz.f21) 9)]) Tryz.func21 (by kernel_rfl) (by kernel_rfl) (by kernel_rfl) trivial (by kernel_rfl) ⟨ajn eE xq eG xt eP xp eF xr eN xn eQ xu eO xo eA xv,trivial⟩ (dQ _ (by kernel_rfl)) (by kernel_rfl) (akJ eE eG eP eF eN eQ eO eA)
theorem akK:cc Tryz.prog Qa:=aiU oA Yi LI aoj LH aog Kw amD Kr ala kP XA xk WL KX am2
theorem akL:aV Qa:=(akK).x (by kernel_rfl)
def Ua:bq:=c4 ⟨[(1,.own .str 0),(2,.dat (.int .u8))],r7⟩ 0 ⟨[(1,.own .str 0)],r7⟩
def Wf:aS:=⟨23,⟨[],[]⟩,⟨[(0,.own .str 0)],r7⟩,tR⟩
def I0:a8:=bW [JD] [(0,Ua.go V0 0)] 0
theorem VZ:bL Tryz.prog (I0).Γ:=bE ⟨Xp,trivial⟩
theorem ak9:cg I0 Tryz.f23 0 0:=cm (L:=Ua) (b:=VY) (m:=[]) VZ trivial
theorem al3:aV Wf:=ca (F:=I0) (fn:=Tryz.f23) (m:=cK Tryz.f23 [0]) VZ Tryz.func23 ⟨ak9,trivial⟩
def Xe:aS:=⟨24,⟨[(0,.dat gj),(1,cn)],[]⟩,⟨[(0,.dat Y5)],[]⟩,K1⟩
theorem anK:aV Xe:=bP (l:=[Kf]) Tryz.func24 ⟨aoi,trivial⟩
def Ug:bq:=⟨⟨[(0,.dat (.list ba)),(1,cn),(4,.ptr 0 ba 0 []),(6,aI)],[.box 58 ba (.agg [cn,cn,aI])]⟩,.ret,⟨[(4,.ptr 0 ba 0 []),(5,cX)],nL⟩,(.exit 0),⟨[(4,.ptr 0 ba 0 [])],[.box 58 ba (.agg [cn,cn,aI])]⟩⟩
def Wo:aS:=⟨36,Cg,HU,x6⟩
def I4:a8:=bW [] [(0,Ug.go acl 0)] 0
theorem WI:bL Tryz.prog (I4).Γ:=bE trivial
theorem alk:cg I4 Tryz.f36 0 0:=cm (L:=Ug) (b:=wP) (m:=[]) WI trivial
theorem amh:aV Wo:=ca (F:=I4) (fn:=Tryz.f36) (m:=cK Tryz.f36 [0]) WI Tryz.func36 ⟨alk,trivial⟩
def JB:aS:=⟨143,HT,dG,xx⟩
theorem Xn:aV JB:=bP (l:=[]) Tryz.func143 trivial
end D
open Go Go.X Go.Proofs D
namespace D
def SD:bq:=c4 Ra 0 Rt
def T5:aS:=⟨141,HR,hY,w4⟩
def Qn:a8:=bW [] [(0,SD.go Qz 0)] 0
theorem TU:bL Tryz.prog (Qn).Γ:=bE trivial
theorem ajV:cg Qn Tryz.f141 0 0:=cm (L:=SD) (b:=q4) (m:=[]) TU trivial
theorem akY:aV T5:=ca (F:=Qn) (fn:=Tryz.f141) (m:=cK Tryz.f141 [0]) TU Tryz.func141 ⟨ajV,trivial⟩
def VO:bq:=⟨⟨[(0,.dat (.list ac)),(1,cn),(5,aI)],[]⟩,.ret,uv,(.exit 0),⟨[],[]⟩⟩
def Kl:aS:=⟨177,⟨[(0,.dat (.list ac)),(1,cn)],[]⟩,dG,yp⟩
def Kg:a8:=bW [JB] [(0,VO.go Km 0)] 0
theorem X9:bL Tryz.prog (Kg).Γ:=bE ⟨Xn,trivial⟩
theorem ani:cg Kg Tryz.f177 0 0:=cm (L:=VO) (b:=xe) (m:=[]) X9 trivial
theorem Ya:aV Kl:=ca (F:=Kg) (fn:=Tryz.f177) (m:=cK Tryz.f177 [0]) X9 Tryz.func177 ⟨ani,trivial⟩
def afG:bq:=c4 ⟨Rh,jc⟩ 0 ⟨[(5,.own ba 0)],jc⟩
def SW:aS:=⟨142,HI,hY,rb⟩
def PV:a8:=bW [Kl] [(0,afG.go PZ 0)] 0
theorem TA:bL Tryz.prog (PV).Γ:=bE ⟨Ya,trivial⟩
theorem ajF:cg PV Tryz.f142 0 0:=cm (L:=afG) (b:=wu) (m:=[]) TA trivial
theorem ajX:aV SW:=ca (F:=PV) (fn:=Tryz.f142) (m:=cK Tryz.f142 [0]) TA Tryz.func142 ⟨ajF,trivial⟩
def SE:bq:=c4 ⟨Rh,jc⟩ 0 ⟨[(5,.own ba 0)],jc⟩
def T6:aS:=⟨144,HI,hY,BB⟩
def Qo:a8:=bW [Kl] [(0,SE.go QA 0)] 0
theorem TV:bL Tryz.prog (Qo).Γ:=bE ⟨Ya,trivial⟩
theorem ajW:cg Qo Tryz.f144 0 0:=cm (L:=SE) (b:=wC) (m:=[]) TV trivial
theorem akZ:aV T6:=ca (F:=Qo) (fn:=Tryz.f144) (m:=cK Tryz.f144 [0]) TV Tryz.func144 ⟨ajW,trivial⟩
def US:aS:=⟨145,⟨[(0,cn),(1,cn),(2,cn)],[]⟩,Cv,CY⟩
theorem alU:aV US:=bP (l:=[Qd]) Tryz.func145 ⟨TQ,trivial⟩
def Te:bq:=c4 ⟨[(3,.ptr 0 cJ 0 []),(5,.own ba 1),(6,aI)],[.box 41 cJ (.dat cJ),.arr 58 ba false]⟩ 1 ⟨[(5,.own ba 0)],jc⟩
def Tf:bq:=c4 ⟨[(3,.ptr 0 cJ 0 []),(7,.own ba 1),(8,.own ba 2),(9,aI)],[.box 41 cJ (.dat cJ),.arr 58 ba false,.arr 58 ba false]⟩ 3 ⟨[(7,.own ba 0)],jc⟩
def UW:aS:=⟨87,⟨[(0,.dat (.list ba)),(1,.dat cJ)],[]⟩,hY,pN⟩
def G3:a8:=bW [AV,Hl,JB,T5,SW,T6,US] [(1,Te.go It 0),(3,Tf.go GU 0)] 0
theorem Is:bL Tryz.prog (G3).Γ:=bE ⟨GR,Ke,Xn,akY,ajX,akZ,alU,trivial⟩
theorem akW:cg G3 Tryz.f87 1 0:=cm (L:=Te) (b:=Ba) (m:=[]) Is trivial
theorem akX:cg G3 Tryz.f87 3 1:=cm (L:=Tf) (b:=rc) (m:=[]) Is trivial
theorem alo:aV UW:=ca (F:=G3) (fn:=Tryz.f87) (m:=cK Tryz.f87 [1,3]) Is Tryz.func87 ⟨akW,akX,trivial⟩
def UB:bq:=c4 ⟨[(0,.dat (.list ba)),(1,.dat (.list cJ)),(5,aI)],[]⟩ 0 m2
def Xl:aS:=⟨140,Rk,m2,Dv⟩
def JL:a8:=bW [UW] [(0,UB.go JR 0)] 0
theorem Xr:bL Tryz.prog (JL).Γ:=bE ⟨alo,trivial⟩
theorem amm:cg JL Tryz.f140 0 0:=cm (L:=UB) (b:=BA) (m:=[]) Xr trivial
theorem ank:aV Xl:=ca (F:=JL) (fn:=Tryz.f140) (m:=cK Tryz.f140 [0]) Xr Tryz.func140 ⟨amm,trivial⟩
def wm:Shape:=oK
def wq:Shape:=m2
def Ga (fJ:dS->Option ((List ak)×Unit)):aS:=⟨95,wm,wq,fJ⟩
end D
open Go Go.X Go.Proofs D
namespace D
def v7:bq:=c4 ⟨[(2,.ptr 0 c0 0 []),(5,.ptr 1 dp 0 []),(7,.own ba 2),(8,aI)],[.box 32 c0 (.dat c0),.box 85 dp (.dat dp),.arr 58 ba false]⟩ 0 ⟨[(5,.ptr 0 dp 0 []),(7,.own ba 1)],[.box 85 dp (.dat dp),.arr 58 ba false]⟩
def P7:aS:=⟨95,wm,wq,Jr⟩
def AQ (fJ:dS->Option ((List ak)×Unit)):a8:=bW [JF,Xl,(Ga fJ)] [(0,v7.go (GK fJ) 0)] 0
theorem ai9 (fJ:dS->Option ((List ak)×Unit)) (s:v7.S.ty.den): @Eq (Option (v7.S.ty.den⊕v7.Out)) (v7.body (AQ fJ) (fP (bJ Tryz.f95) 0) 0 s).val (wv fJ s):=by kernel_rfl
theorem aj0 (fJ:dS->Option ((List ak)×Unit)) (s:wm.ty.den): @Eq (Option wq.ty.den) (ku (AQ fJ) Tryz.f95 wm wq s).val (sW fJ s):=by kernel_rfl
theorem TB (fJ:dS->Option ((List ak)×Unit)) (wZ:cc Tryz.prog (Ga fJ)):bL Tryz.prog (AQ fJ).Γ:=bE ⟨Xt,ank,(wZ.x (by kernel_rfl)),trivial⟩
theorem ajG (fJ:dS->Option ((List ak)×Unit)) (wZ:cc Tryz.prog (Ga fJ)):fS Tryz.prog (AQ fJ) Tryz.f95.ntmps 0 (fP (bJ Tryz.f95) 0):=
  pR dE (TB fJ wZ) dN (L:=v7) (f:=GK fJ) (b:=wv fJ) (m:=[]) (fun _=>rfl) (by kernel_rfl) (by kernel_rfl) trivial (by kernel_rfl) (dQ _ (by kernel_rfl)) (ai9 fJ)
theorem aiC (fJ:dS->Option ((List ak)×Unit)) (wZ:cc Tryz.prog (Ga fJ)):cc Tryz.prog ⟨95,wm,wq,sW fJ⟩:=
  pQ (F:=(AQ fJ)) dE (TB fJ wZ) dN (fn:=Tryz.f95) (m:=cK Tryz.f95 [0]) Tryz.func95 (by kernel_rfl) (by kernel_rfl) (by kernel_rfl) ⟨ajG fJ wZ,trivial⟩ (dQ _ (by kernel_rfl)) (by kernel_rfl) (aj0 fJ)
theorem ae9: ∀n,cc Tryz.prog ⟨95,wm,wq,wb n⟩
  |0=>yo
  |n+1=>aiC _ (ae9 n)
theorem aj1:cc Tryz.prog P7:=ae9 jB
theorem aj2:aV P7:=(aj1).x (by kernel_rfl)
def WZ:aS:=⟨35,xR,m2,Dw⟩
theorem ann:aV WZ:=bP (l:=[P7]) Tryz.func35 ⟨aj2,trivial⟩
def afr:bq:=⟨⟨[(4,.ptr 0 hX 0 []),(7,cX),(8,.ptr 1 gj 0 []),(9,.dat (.list ba)),(10,.own .str 2),(11,aI)],[.box 28 hX (.dat hX),.box 36 gj (.dat gj),.arr 9 .str false]⟩,.ret,⟨[(6,cX)],[]⟩,(.exit 0),⟨[(4,.ptr 0 hX 0 []),(7,cX),(8,.ptr 1 gj 0 []),(9,.dat (.list ba))],[.box 28 hX (.dat hX),.box 36 gj (.dat gj)]⟩⟩
def afs:bq:=⟨⟨[(7,cX),(8,.ptr 0 gj 0 []),(9,.dat (.list ba)),(15,.own ac 1),(16,aI)],[.box 36 gj (.dat gj),.arr 39 ac false]⟩,.ret,⟨[(6,cX)],[]⟩,(.exit 2),⟨[(7,cX)],[]⟩⟩
def PF:aS:=⟨5,⟨[(0,.dat lj),(1,.dat hX),(2,.dat (.int .u8))],[]⟩,dG,wA⟩
def Gb:a8:=bW [QU,ra,Qe,Wu,JH,IU,Qa,Wf,Xe,Wo,WZ] [(0,afr.go PJ 0),(2,afs.go PK 0)] 0
theorem PH:bL Tryz.prog (Gb).Γ:=bE ⟨Vf,WN,TW,amR,an4,aml,akL,al3,anK,amh,ann,trivial⟩
theorem aiW:cg Gb Tryz.f5 0 0:=cm (L:=afr) (b:=AN) (m:=[]) PH trivial
theorem aiX:cg Gb Tryz.f5 2 1:=cm (L:=afs) (b:=AO) (m:=[]) PH trivial
theorem ajl:cc Tryz.prog PF:=nJ (F:=Gb) (fn:=Tryz.f5) (m:=cK Tryz.f5 [0,2]) PH Tryz.func5 ⟨aiW,aiX,trivial⟩
end D
