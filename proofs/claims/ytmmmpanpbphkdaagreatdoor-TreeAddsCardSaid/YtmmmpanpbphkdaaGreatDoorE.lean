import Derived.Test.YtmmmpanpbphkdaaGreatDoorEb
set_option linter.unusedVariables false
set_option maxRecDepth 100000
open Go Go.X Go.Proofs D
namespace D
theorem amM:cR vk Tryz.f271 7 4:=xi (λ_=>rfl)
theorem amI:cR vk Tryz.f271 9 0:=cX (ay:=aik) (b:=aiF) (m:=[]) aiG ai
theorem amW:bc aiP:=cB (F:=vk) (fn:=Tryz.f271) (m:=dw Tryz.f271 [9,1,3,5,7]) aiG Tryz.func271 ⟨amI,amJ,amK,amL,amM,ai⟩
def ahO:aZ:=⟨272,iB,ew,ah7⟩
theorem azA:bc ahO:=cg (l:=[]) Tryz.func272 ai
def ain:bO:=⟨⟨[(1,c6),(45,.ptr 0 .unit 0 [])],[.iter]⟩,.ret,⟨[(4,aL)],[]⟩,(.exit 2),⟨[],[]⟩⟩
def amB:aZ:=⟨254,jF,iB,To⟩
def Jd:bn:=cv [aiP,ahO] [(2,ain.go aix 0)] 0
theorem aiw:cd bk (Jd).Γ:=bY ⟨amW,azA,ai⟩
theorem ams:cR Jd Tryz.f254 0 0:=xi (λ_=>rfl)
theorem amt:cR Jd Tryz.f254 2 1:=cX (ay:=ain) (b:=aiv) (m:=[]) aiw ai
theorem amH:cE bk amB:=pI (F:=Jd) (fn:=Tryz.f254) (m:=dw Tryz.f254 [0,2]) aiw Tryz.func254 ⟨ams,amt,ai⟩
def aiV:Shape:=jF
def aiW:Shape:=iB
def Ti:aZ:=⟨254,aiV,aiW,W1⟩
theorem anc:cE bk Ti:=U3 (f:=254) (S:=aiV) (Z:=aiW) (g1:=To) (g2:=Bq) amH (arf Tryz.lays153 aD Tryz.func254 aD)
theorem ane:bc Ti:=anc.x aD
def VO:aZ:=⟨241,⟨[(0,.ptr 0 JY 0 [0])],E7⟩,⟨[(0,c6),(1,.dat (.int .u8))],E7⟩,YH⟩
def anG:bn:=cv [Ti] [] 1
theorem anC:bc VO:=cB (F:=anG) (fn:=Tryz.f241) (m:=[]) (bY ⟨ane,ai⟩) Tryz.func241 ai
def VM:aZ:=⟨224,⟨[(0,.ptr 0 JY 0 [])],E7⟩,⟨[],E7⟩,XO⟩
def anq:bn:=cv [S6,VO] [] 1
theorem ank:bc VM:=cB (F:=anq) (fn:=Tryz.f224) (m:=[]) (bY ⟨aiD,anC,ai⟩) Tryz.func224 ai
def ahI:aZ:=⟨292,jF,iB,ahT⟩
def ahJ:bn:=oc [Ia]
theorem azs:cR ahJ Tryz.f292 1 0:=xi (λ_=>rfl)
theorem azv:bc ahI:=cB (F:=ahJ) (fn:=Tryz.f292) (m:=dw Tryz.f292 [1]) (bY ⟨ahG,ai⟩) Tryz.func292 ⟨azs,ai⟩
def ahR:aZ:=⟨275,jF,⟨[(0,c6),(1,c6),(2,dA)],[]⟩,ah2⟩
theorem azz:bc ahR:=cg (l:=[ahI]) Tryz.func275 ⟨azv,ai⟩
def Yk:aZ:=⟨255,jF,⟨[(0,c6),(1,c6),(2,dA)],[]⟩,abn⟩
theorem apJ:bc Yk:=cg (l:=[ahR]) Tryz.func255 ⟨azz,ai⟩
def Wm:aZ:=⟨258,⟨[(0,.dat (.int .i32))],[]⟩,ew,Zd⟩
theorem aoc:bc Wm:=cg (l:=[]) Tryz.func258 ai
def ail:bO:=⟨⟨[(1,.fn 258 [] []),(2,dA),(10,.ptr 0 .unit 0 [])],[.iter]⟩,.ret,⟨[(6,aL)],[]⟩,(.exit 0),⟨[],[]⟩⟩
def aiQ:aZ:=⟨282,⟨[(0,c6),(1,.fn 258 [] []),(2,dA)],[]⟩,iB,V4⟩
def rt:bn:=cv [Wm] [(0,ail.go aiL 0)] 0
theorem aiK:cd bk (rt).Γ:=bY ⟨aoc,ai⟩
theorem amN:cR rt Tryz.f282 0 0:=cX (ay:=ail) (b:=aiJ) (m:=[]) aiK ai
theorem amX:bc aiQ:=cB (F:=rt) (fn:=Tryz.f282) (m:=dw Tryz.f282 [0]) aiK Tryz.func282 ⟨amN,ai⟩
def aiO:aZ:=⟨257,⟨[(0,c6),(1,.fn 258 [] [])],[]⟩,iB,Wi⟩
theorem amV:bc aiO:=cg (l:=[aiQ]) Tryz.func257 ⟨amX,ai⟩
def L9:aZ:=⟨244,hi,ew,Oa⟩
theorem YG:bc L9:=cg (l:=[aiO]) Tryz.func244 ⟨amV,ai⟩
def Xt:bO:=⟨hi,.ret,r5,(.exit 0),⟨[],[]⟩⟩
def Mv:aZ:=⟨242,hi,ew,Oo⟩
def MH:bn:=cv [Yk,L9] [(0,Xt.go aaa 0)] 0
theorem Z9:cd bk (MH).Γ:=bY ⟨apJ,YG,ai⟩
theorem apg:cR MH Tryz.f242 0 0:=cX (ay:=Xt) (b:=Z8) (m:=[]) Z9 ai
theorem Zc:bc Mv:=cB (F:=MH) (fn:=Tryz.f242) (m:=dw Tryz.f242 [0]) Z9 Tryz.func242 ⟨apg,ai⟩
def ahW:bO:=ec wU 0 hi
def ah1:aZ:=⟨277,wU,hi,aiy⟩
def SP:bn:=cv [] [(0,ahW.go aie 0)] 0
theorem aid:cd bk (SP).Γ:=bY ai
theorem amb:cR SP Tryz.f277 0 0:=cX (ay:=ahW) (b:=aic) (m:=[]) aid ai
theorem amj:bc ah1:=cB (F:=SP) (fn:=Tryz.f277) (m:=dw Tryz.f277 [0]) aid Tryz.func277 ⟨amb,ai⟩
def ah4:bO:=ec wU 0 hi
def aia:aZ:=⟨276,wU,hi,aiM⟩
def SS:bn:=cv [] [(0,ah4.go v6 0)] 0
theorem aiq:cd bk (SS).Γ:=bY ai
theorem ami:cR SS Tryz.f276 0 0:=cX (ay:=ah4) (b:=aip) (m:=[]) aiq ai
theorem amp:bc aia:=cB (F:=SS) (fn:=Tryz.f276) (m:=dw Tryz.f276 [0]) aiq Tryz.func276 ⟨ami,ai⟩
def anF:aZ:=⟨256,jF,hi,Mk⟩
def anH:bn:=oc [ah1,aia]
theorem anI:cE bk anF:=pI (F:=anH) (fn:=Tryz.f256) (m:=[]) (bY ⟨amj,amp,ai⟩) Tryz.func256 ai
def XH:Shape:=jF
def XI:Shape:=hi
def TS:aZ:=⟨256,XH,XI,aaX⟩
theorem aoO:cE bk TS:=U3 (f:=256) (S:=XH) (Z:=XI) (g1:=Mk) (g2:=Bh) anI (akV Tryz.lays160 aD Tryz.func256 aD)
theorem aoP:bc TS:=aoO.x aD
end D
open Go Go.X Go.Proofs D
namespace D
def X6:aZ:=⟨243,hi,ew,aa8⟩
theorem aph:bc X6:=cg (l:=[TS]) Tryz.func243 ⟨aoP,ai⟩
def sO:bO:=⟨⟨[(1,.ptr 0 hG 0 []),(86,dA)],w0⟩,.nrm,⟨[],[]⟩,.ret,Ac⟩
def sN:bO:=⟨⟨[(1,.ptr 0 hG 0 []),(4,.ptr 1 hG 0 []),(66,dA)],E6⟩,.nrm,⟨[],[]⟩,.ret,Ac⟩
def sM:bO:=⟨⟨[(1,.ptr 0 hG 0 []),(4,.ptr 1 hG 0 []),(35,dA)],E6⟩,.nrm,⟨[],[]⟩,.ret,Ac⟩
def sL:bO:=⟨⟨[(1,.ptr 0 hG 0 []),(4,.ptr 1 hG 0 []),(23,dA)],E6⟩,.nrm,⟨[],[]⟩,.ret,Ac⟩
def sQ:bO:=⟨⟨[(1,.ptr 0 hG 0 []),(4,.ptr 1 hG 0 []),(22,dA)],E6⟩,.nrm,⟨[],[]⟩,.ret,Ac⟩
def wx:aZ:=⟨225,Fm,⟨[(0,c6),(1,aL)],[]⟩,ac7⟩
def kG:bn:=oc [L9,Mv,X6]
def oN:lD:=[(100010,sO.go vP 0),(100008,sN.go tf 0),(100006,sM.go q0 0),(100004,sL.go vO 0),(300003,sQ.go tg 0)]
theorem am7 (d:sO.S.ty.den): @Eq (O sO.Out) ((gQ kG oN (e0 (b7 Tryz.f225) 100010) 0 (sO.S.enc d)).bind λ(e,st)=>sO.out (kG).m e st).val (vP d):=aD
theorem am5 (d:sN.S.ty.den): @Eq (O sN.Out) ((gQ kG oN (e0 (b7 Tryz.f225) 100008) 0 (sN.S.enc d)).bind λ(e,st)=>sN.out (kG).m e st).val (tf d):=aD
theorem am3 (d:sM.S.ty.den): @Eq (O sM.Out) ((gQ kG oN (e0 (b7 Tryz.f225) 100006) 0 (sM.S.enc d)).bind λ(e,st)=>sM.out (kG).m e st).val (q0 d):=aD
theorem am1 (d:sL.S.ty.den): @Eq (O sL.Out) ((gQ kG oN (e0 (b7 Tryz.f225) 100004) 0 (sL.S.enc d)).bind λ(e,st)=>sL.out (kG).m e st).val (vO d):=aD
theorem am9 (d:sQ.S.ty.den): @Eq (O sQ.Out) ((gQ kG oN (e0 (b7 Tryz.f225) 300003) 0 (sQ.S.enc d)).bind λ(e,st)=>sQ.out (kG).m e st).val (tg d):=aD
theorem asg (d:(wx).S.ty.den):(su kG oN Tryz.f225 (wx).S (wx).Z d).val=(wx).g d:=aD
theorem zF:cd bk (kG).Γ:=bY ⟨YG,Zc,aph,ai⟩
theorem am8:jP bk kG Tryz.f225.ntmps (sO.go vP 0) (e0 (b7 Tryz.f225) 100010):=
  lX eB zF eQ (ay:=sO) (k:=0) (f:=vP) (C:=oN) (l:=[]) (m:=[]) aD ai aD ai aD (eU _ aD) am7
theorem am6:jP bk kG Tryz.f225.ntmps (sN.go tf 0) (e0 (b7 Tryz.f225) 100008):=
  lX eB zF eQ (ay:=sN) (k:=0) (f:=tf) (C:=oN) (l:=[]) (m:=[(sO.go vP 0,e0 (b7 Tryz.f225) 100010)]) aD ai aD ⟨am8,ai⟩ aD (eU _ aD) am5
theorem am4:jP bk kG Tryz.f225.ntmps (sM.go q0 0) (e0 (b7 Tryz.f225) 100006):=
  lX eB zF eQ (ay:=sM) (k:=0) (f:=q0) (C:=oN) (l:=[]) (m:=[(sN.go tf 0,e0 (b7 Tryz.f225) 100008)]) aD ai aD ⟨am6,ai⟩ aD (eU _ aD) am3
theorem am2:jP bk kG Tryz.f225.ntmps (sL.go vO 0) (e0 (b7 Tryz.f225) 100004):=
  lX eB zF eQ (ay:=sL) (k:=0) (f:=vO) (C:=oN) (l:=[]) (m:=[(sM.go q0 0,e0 (b7 Tryz.f225) 100006)]) aD ai aD ⟨am4,ai⟩ aD (eU _ aD) am1
theorem ana:jP bk kG Tryz.f225.ntmps (sQ.go tg 0) (e0 (b7 Tryz.f225) 300003):=
  lX eB zF eQ (ay:=sQ) (k:=0) (f:=tg) (C:=oN) (l:=[]) (m:=[(sL.go vO 0,e0 (b7 Tryz.f225) 100004)]) aD ai aD ⟨am2,ai⟩ aD (eU _ aD) am9
theorem ash:cE bk wx:=
  AK (C:=oN) (F:=kG) eB zF eQ (fn:=Tryz.f225) (l:=[]) (m:=[(sQ.go tg 0,e0 (b7 Tryz.f225) 300003)]) Tryz.func225 aD aD aD ai aD ⟨ana,ai⟩ (eU _ aD) aD asg
theorem asi:bc wx:=(ash).x aD
def Kt:aZ:=⟨191,hi,⟨[(0,.dat hG),(1,aL)],[]⟩,pw⟩
theorem MW:bc Kt:=cg (l:=[VM,wx]) Tryz.func191 ⟨ank,asi,ai⟩
def YZ:aZ:=⟨190,⟨[(0,aL),(1,aL),(2,.ptr 0 .opq 0 []),(3,.ptr 1 eL 0 [])],[.box 242 .opq (.fn 189 [] []),.box 95 eL mO]⟩,⟨[],[.box 242 .opq (.fn 189 [] []),.box 95 eL mO]⟩,zK⟩
def ap0:bn:=cv [Mu,TF] [] 2
theorem aqL:bc YZ:=cB (F:=ap0) (fn:=Tryz.f190) (m:=[]) (bY ⟨Z7,WV,ai⟩) Tryz.func190 ai
def aad:aZ:=⟨226,hi,iB,GA⟩
theorem arQ:bc aad:=cg (l:=[Mv,Kt]) Tryz.func226 ⟨Zc,MW,ai⟩
def Y1:aZ:=⟨192,jF,ew,AR⟩
theorem aqN:bc Y1:=cg (l:=[aad]) Tryz.func192 ⟨arQ,ai⟩
def W2:aZ:=⟨223,Fo,ur,KQ⟩
theorem ao0:bc W2:=cg (l:=[Kt]) Tryz.func223 ⟨MW,ai⟩
def Wx:bO:=ec ⟨[(2,.ptr 0 ja 0 []),(3,.ptr 1 ja 0 []),(7,.dat (.list bz)),(8,aL),(9,aL)],Fb⟩ 0 ⟨[(2,.ptr 0 ja 0 []),(3,.ptr 1 ja 0 [])],Fb⟩
def X5:aZ:=⟨188,uo,ur,FZ⟩
def LV:bn:=cv [W2] [(0,Wx.go L8 0)] 0
theorem X0:cd bk (LV).Γ:=bY ⟨ao0,ai⟩
theorem ao1:cR LV Tryz.f188 0 0:=cX (ay:=Wx) (b:=DO) (m:=[]) X0 ai
theorem apa:bc X5:=cB (F:=LV) (fn:=Tryz.f188) (m:=dw Tryz.f188 [0]) X0 Tryz.func188 ⟨ao1,ai⟩
def ZS:bO:=ec ⟨[(1,.ptr 0 ey 0 []),(2,.ptr 1 eL 0 []),(3,.ptr 2 eL 0 []),(5,.ptr 3 .opq 0 []),(35,.dat (.list eL)),(36,aL),(37,aL)],Uz⟩ 0 ⟨[(1,.ptr 0 ey 0 []),(2,.ptr 1 eL 0 []),(3,.ptr 2 eL 0 []),(5,.ptr 3 .opq 0 [])],Uz⟩
def ZT:bO:=ec ⟨[(2,.ptr 0 eL 0 []),(3,.ptr 1 eL 0 []),(5,.ptr 2 .opq 0 []),(8,.fn 190 [] [(.ptr 2 .opq 0 []),(.ptr 1 eL 0 [])]),(62,.dat (.list am)),(63,aL),(64,aL)],[.box 95 eL mO,.box 95 eL mO,.box 242 .opq (.fn 189 [] [])]⟩ 2 ⟨[(2,.ptr 0 eL 0 []),(3,.ptr 1 eL 0 [])],[.box 95 eL mO,.box 95 eL mO]⟩
def aaZ:aZ:=⟨149,⟨[(0,.dat ey)],[]⟩,wR,abs⟩
def FW:bn:=cv [Mu,TF,Kt,YZ,Y1,X5] [(0,ZS.go NX 0),(2,ZT.go N9 0)] 0
theorem NW:cd bk (FW).Γ:=bY ⟨Z7,WV,MW,aqL,aqN,apa,ai⟩
theorem arO:cR FW Tryz.f149 0 0:=cX (ay:=ZS) (b:=EI) (m:=[]) NW ai
theorem arP:cR FW Tryz.f149 2 1:=cX (ay:=ZT) (b:=tC) (m:=[]) NW ai
theorem asd:bc aaZ:=cB (F:=FW) (fn:=Tryz.f149) (m:=dw Tryz.f149 [0,2]) NW Tryz.func149 ⟨arO,arP,ai⟩
def yX:bO:=⟨⟨[(3,aL),(4,.ptr 0 dm 0 []),(9,.ptr 1 ey 0 []),(11,aL),(39,.own ac 2),(40,aL),(41,aL)],[.box 32 dm (.dat dm),.box 85 ey (.dat ey),.arr 39 ac false]⟩,.ret,⟨[(8,aL)],[]⟩,(.exit 0),⟨[(11,aL)],[]⟩⟩
def LS:aZ:=⟨91,zj,zc,ES⟩
def DX (fU:(bF×Int×aK×Int×H)->O (Int×H)):bn:=cv [tx,Mt,tr,(JV fU),Y0,aaZ] [(0,yX.go (DZ fU) 0)] 0
theorem anJ (fU:(bF×Int×aK×Int×H)->O (Int×H)) (d:yX.S.ty.den): @Eq (O (yX.S.ty.den⊕yX.Out)) (yX.body (DX fU) (hp (b7 Tryz.f91) 0) 0 d).val (qf fU d):=aD
theorem apV (fU:(bF×Int×aK×Int×H)->O (Int×H)) (d:zj.ty.den): @Eq (O zc.ty.den) (me (DX fU) Tryz.f91 zj zc d).val (k7 fU d):=aD
theorem YE (fU:(bF×Int×aK×Int×H)->O (Int×H)) (zB:cE bk (JV fU)):cd bk (DX fU).Γ:=bY ⟨zG,Z6,zz,(zB.x aD),aqM,asd,ai⟩
theorem aoT (fU:(bF×Int×aK×Int×H)->O (Int×H)) (zB:cE bk (JV fU)):hq bk (DX fU) Tryz.f91.ntmps 0 (hp (b7 Tryz.f91) 0):=
  rR eB (YE fU zB) eQ (ay:=yX) (f:=DZ fU) (b:=qf fU) (m:=[]) (λ_=>rfl) aD aD ai aD (eU _ aD) (anJ fU)
theorem anh (fU:(bF×Int×aK×Int×H)->O (Int×H)) (zB:cE bk (JV fU)):cE bk ⟨91,zj,zc,k7 fU⟩:=
  rQ (F:=(DX fU)) eB (YE fU zB) eQ (fn:=Tryz.f91) (m:=dw Tryz.f91 [0]) Tryz.func91 aD aD aD ⟨aoT fU zB,ai⟩ (eU _ aD) aD (apV fU)
theorem ai1: ∀n,cE bk ⟨91,zj,zc,bv n⟩
  |0=>A9
  |n+1=>anh _ (ai1 n)
theorem apW:cE bk LS:=ai1 jl
theorem apX:bc LS:=(apW).x aD
def D7:Shape:=Fp
def D9:Shape:=ew
def MF:aZ:=⟨31,D7,D9,zR⟩
def ap4:bn:=oc [MG,LS]
theorem aai:cE bk MF:=pI (F:=ap4) (fn:=Tryz.f31) (m:=[]) (bY ⟨aaj,apX,ai⟩) Tryz.func31 ai
theorem aqE:bc MF:=aai.x aD
def sW:bO:=⟨⟨[(1,.ptr 0 jn 0 []),(2,.ptr 1 bz 0 []),(3,dA),(4,aL),(7,dA),(8,aL),(10,.own bz 2),(16,.ptr 3 jn 0 []),(18,dA)],[.box 36 jn (.dat jn),.box 58 bz (.dat bz),.arr 58 bz false,.box 36 jn (.dat jn)]⟩,.ret,ew,(.exit 90000009),⟨[],[]⟩⟩
def J2:Shape:=⟨[],[]⟩
def J3:Shape:=ew
def TM:aZ:=⟨21,J2,J3,Ny⟩
def y2 (fA:(c1×N×H)->O qp) (fC:(bi×H)->O (c1×Int×H)) (fM:(c1×bE×H)->O (c1×Int×H)) (fB:(c1×H)->O (Int×H)) (fK:H->O (c1×H)) (fN:(c1×aK×H)->O (Int×ak×H)) (fL:(ak×ak×H)->O (Bool×H)) (fy:(c1×H)->O (Bool×H)):bn:=oc [⟨81,wA,wk,fA⟩,⟨40,EW,EY,fC⟩,⟨15,EV,EX,fM⟩,⟨17,DY,DN,fB⟩,⟨80,rx,DM,fK⟩,⟨27,wj,we,fN⟩,⟨29,D4,D8,fL⟩,⟨31,D7,D9,fy⟩]
def J9 (fA:(c1×N×H)->O qp) (fC:(bi×H)->O (c1×Int×H)) (fM:(c1×bE×H)->O (c1×Int×H)) (fB:(c1×H)->O (Int×H)) (fK:H->O (c1×H)) (fN:(c1×aK×H)->O (Int×ak×H)) (fL:(ak×ak×H)->O (Bool×H)) (fy:(c1×H)->O (Bool×H)):lD:=[(9,sW.go (pb fA fC fM fB fK fN fL fy) 0)]
theorem anw (fA:(c1×N×H)->O qp) (fC:(bi×H)->O (c1×Int×H)) (fM:(c1×bE×H)->O (c1×Int×H)) (fB:(c1×H)->O (Int×H)) (fK:H->O (c1×H)) (fN:(c1×aK×H)->O (Int×ak×H)) (fL:(ak×ak×H)->O (Bool×H)) (fy:(c1×H)->O (Bool×H)) (d:sW.S.ty.den): @Eq (O sW.Out) ((gQ (y2 fA fC fM fB fK fN fL fy) (J9 fA fC fM fB fK fN fL fy) (e0 (b7 Tryz.f21) 9) 0 (sW.S.enc d)).bind λ(e,st)=>sW.out (y2 fA fC fM fB fK fN fL fy).m e st).val (pb fA fC fM fB fK fN fL fy d):=aD
theorem ao2 (fA:(c1×N×H)->O qp) (fC:(bi×H)->O (c1×Int×H)) (fM:(c1×bE×H)->O (c1×Int×H)) (fB:(c1×H)->O (Int×H)) (fK:H->O (c1×H)) (fN:(c1×aK×H)->O (Int×ak×H)) (fL:(ak×ak×H)->O (Bool×H)) (fy:(c1×H)->O (Bool×H)) (d:J2.ty.den): @Eq (O J3.ty.den) (su (y2 fA fC fM fB fK fN fL fy) (J9 fA fC fM fB fK fN fL fy) Tryz.f21 J2 J3 d).val (Ty fA fC fM fB fK fN fL fy d):=aD
theorem XK (fA:(c1×N×H)->O qp) (zW:cE bk ⟨81,wA,wk,fA⟩) (fC:(bi×H)->O (c1×Int×H)) (zY:cE bk ⟨40,EW,EY,fC⟩) (fM:(c1×bE×H)->O (c1×Int×H)) (zV:cE bk ⟨15,EV,EX,fM⟩) (fB:(c1×H)->O (Int×H)) (zX:cE bk ⟨17,DY,DN,fB⟩) (fK:H->O (c1×H)) (zT:cE bk ⟨80,rx,DM,fK⟩) (fN:(c1×aK×H)->O (Int×ak×H)) (zZ:cE bk ⟨27,wj,we,fN⟩) (fL:(ak×ak×H)->O (Bool×H)) (zU:cE bk ⟨29,D4,D8,fL⟩) (fy:(c1×H)->O (Bool×H)) (z1:cE bk ⟨31,D7,D9,fy⟩):cd bk (y2 fA fC fM fB fK fN fL fy).Γ:=bY ⟨(zW.x aD),(zY.x aD),(zV.x aD),(zX.x aD),(zT.x aD),(zZ.x aD),(zU.x aD),(z1.x aD),ai⟩
theorem anx (fA:(c1×N×H)->O qp) (zW:cE bk ⟨81,wA,wk,fA⟩) (fC:(bi×H)->O (c1×Int×H)) (zY:cE bk ⟨40,EW,EY,fC⟩) (fM:(c1×bE×H)->O (c1×Int×H)) (zV:cE bk ⟨15,EV,EX,fM⟩) (fB:(c1×H)->O (Int×H)) (zX:cE bk ⟨17,DY,DN,fB⟩) (fK:H->O (c1×H)) (zT:cE bk ⟨80,rx,DM,fK⟩) (fN:(c1×aK×H)->O (Int×ak×H)) (zZ:cE bk ⟨27,wj,we,fN⟩) (fL:(ak×ak×H)->O (Bool×H)) (zU:cE bk ⟨29,D4,D8,fL⟩) (fy:(c1×H)->O (Bool×H)) (z1:cE bk ⟨31,D7,D9,fy⟩):jP bk (y2 fA fC fM fB fK fN fL fy) Tryz.f21.ntmps (sW.go (pb fA fC fM fB fK fN fL fy) 0) (e0 (b7 Tryz.f21) 9):=
  lX eB (XK fA zW fC zY fM zV fB zX fK zT fN zZ fL zU fy z1) eQ (ay:=sW) (k:=0) (f:=pb fA fC fM fB fK fN fL fy) (C:=(J9 fA fC fM fB fK fN fL fy)) (l:=[]) (m:=[]) aD ai aD ai aD (eU _ aD) (anw fA fC fM fB fK fN fL fy)
theorem amS (fA:(c1×N×H)->O qp) (zW:cE bk ⟨81,wA,wk,fA⟩) (fC:(bi×H)->O (c1×Int×H)) (zY:cE bk ⟨40,EW,EY,fC⟩) (fM:(c1×bE×H)->O (c1×Int×H)) (zV:cE bk ⟨15,EV,EX,fM⟩) (fB:(c1×H)->O (Int×H)) (zX:cE bk ⟨17,DY,DN,fB⟩) (fK:H->O (c1×H)) (zT:cE bk ⟨80,rx,DM,fK⟩) (fN:(c1×aK×H)->O (Int×ak×H)) (zZ:cE bk ⟨27,wj,we,fN⟩) (fL:(ak×ak×H)->O (Bool×H)) (zU:cE bk ⟨29,D4,D8,fL⟩) (fy:(c1×H)->O (Bool×H)) (z1:cE bk ⟨31,D7,D9,fy⟩):cE bk ⟨21,J2,J3,Ty fA fC fM fB fK fN fL fy⟩:=
  AK (C:=(J9 fA fC fM fB fK fN fL fy)) (F:=(y2 fA fC fM fB fK fN fL fy)) eB (XK fA zW fC zY fM zV fB zX fK zT fN zZ fL zU fy z1) eQ (fn:=Tryz.f21) (l:=[]) (m:=[(sW.go (pb fA fC fM fB fK fN fL fy) 0,e0 (b7 Tryz.f21) 9)]) Tryz.func21 aD aD aD ai aD ⟨anx fA zW fC zY fM zV fB zX fK zT fN zZ fL zU fy z1,ai⟩ (eU _ aD) aD (ao2 fA fC fM fB fK fN fL fy)
theorem ao3:cE bk TM:=amS GY asW Pr asX nf abp N8 apU NU apG kQ aaO zL Zs zR aai
theorem ao4:bc TM:=(ao3).x aD
end D
open Go Go.X Go.Proofs D
namespace D
def aa0:aZ:=⟨102,Li,ew,xk⟩
theorem asQ:bc aa0:=cg (l:=[]) Tryz.func102 ai
def Zb:aZ:=⟨103,og,ew,tJ⟩
theorem aq4:bc Zb:=cg (l:=[Ka]) Tryz.func103 ⟨Md,ai⟩
def Yd:aZ:=⟨44,gn,ew,lb⟩
theorem apB:bc Yd:=cg (l:=[TQ,aa0,Zb]) Tryz.func44 ⟨Xj,asQ,aq4,ai⟩
end D
open Go Go.X Go.Proofs D
namespace D
def VP:bO:=⟨⟨[(1,.ptr 0 dm 0 []),(2,.ptr 1 (.list (.int .i64)) 0 []),(7,.dat (.list (.int .i64))),(8,aL),(9,aL)],uu⟩,.ret,⟨[(4,dA)],uu⟩,(.exit 0),⟨[],uu⟩⟩
def W5:aZ:=⟨97,⟨[(0,.dat (.list (.int .i64))),(1,.ptr 0 dm 0 []),(2,.ptr 1 (.list (.int .i64)) 0 [])],uu⟩,⟨[(0,dA)],uu⟩,ED⟩
def TU:bn:=cv [zt] [(0,VP.go T2 3)] 3
theorem Xd:cd bk (TU).Γ:=bY ⟨EE,ai⟩
theorem aod:cR TU Tryz.f97 0 0:=cX (ay:=VP) (b:=DF) (m:=[]) Xd ai
theorem aor:bc W5:=cB (F:=TU) (fn:=Tryz.f97) (m:=dw Tryz.f97 [0]) Xd Tryz.func97 ⟨aod,ai⟩
def y5:Shape:=⟨[(0,aL),(1,.ptr 0 dm 0 []),(2,.ptr 1 (.list (.int .i64)) 0 []),(3,.ptr 2 .bool 0 []),(4,.ptr 3 .opq 0 []),(5,.ptr 4 .opq 0 [])],Fe⟩
def y7:Shape:=⟨[],Fe⟩
def JH (gH:(Int×bF×Bool×cC×Int×H)->O (bF×Bool×cC×Int×H)):aZ:=⟨154,y5,y7,gH⟩
def W6:aZ:=⟨100,⟨[(0,aL),(1,.ptr 0 (.int .i64) 0 [])],Fq⟩,⟨[],Fq⟩,NJ⟩
def aoY:bn:=cv [] [] 1
theorem aos:bc W6:=cB (F:=aoY) (fn:=Tryz.f100) (m:=[]) (bY ai) Tryz.func100 ai
def yQ:bO:=ec ⟨[(0,aL),(2,.ptr 1 (.list (.int .i64)) 0 []),(4,.ptr 3 .opq 0 []),(5,.ptr 4 .opq 0 []),(34,.dat (.list (.int .i64))),(35,aL),(36,aL)],Fe⟩ 0 ⟨[(0,aL),(2,.ptr 1 (.list (.int .i64)) 0 []),(5,.ptr 4 .opq 0 [])],Fe⟩
def TO:aZ:=⟨154,y5,y7,NK⟩
def DD (gH:(Int×bF×Bool×cC×Int×H)->O (bF×Bool×cC×Int×H)):bn:=cv [zt,(JH gH),W6] [(0,yQ.go (J7 gH) 7)] 7
theorem anl (gH:(Int×bF×Bool×cC×Int×H)->O (bF×Bool×cC×Int×H)) (d:yQ.S.ty.den): @Eq (O (yQ.S.ty.den⊕yQ.Out)) (yQ.body (DD gH) (hp (b7 Tryz.f154) 0) 0 d).val (y9 gH d):=aD
theorem aot (gH:(Int×bF×Bool×cC×Int×H)->O (bF×Bool×cC×Int×H)) (d:y5.ty.den): @Eq (O y7.ty.den) (me (DD gH) Tryz.f154 y5 y7 d).val (vN gH d):=aD
theorem Xe (gH:(Int×bF×Bool×cC×Int×H)->O (bF×Bool×cC×Int×H)) (zk:cE bk (JH gH)):cd bk (DD gH).Γ:=bY ⟨EE,(zk.x aD),aos,ai⟩
theorem aoe (gH:(Int×bF×Bool×cC×Int×H)->O (bF×Bool×cC×Int×H)) (zk:cE bk (JH gH)):hq bk (DD gH) Tryz.f154.ntmps 0 (hp (b7 Tryz.f154) 0):=
  rR eB (Xe gH zk) eQ (ay:=yQ) (f:=J7 gH) (b:=y9 gH) (m:=[]) (λ_=>rfl) aD aD ai aD (eU _ aD) (anl gH)
theorem amY (gH:(Int×bF×Bool×cC×Int×H)->O (bF×Bool×cC×Int×H)) (zk:cE bk (JH gH)):cE bk ⟨154,y5,y7,vN gH⟩:=
  rQ (F:=(DD gH)) eB (Xe gH zk) eQ (fn:=Tryz.f154) (m:=dw Tryz.f154 [0]) Tryz.func154 aD aD aD ⟨aoe gH zk,ai⟩ (eU _ aD) aD (aot gH)
theorem aiC: ∀n,cE bk ⟨154,y5,y7,sV n⟩
  |0=>A9
  |n+1=>amY _ (aiC n)
theorem aou:cE bk TO:=aiC jl
theorem aov:bc TO:=(aou).x aD
def Xw:bO:=ec ⟨[(8,.ptr 1 .bool 0 []),(9,.ptr 2 .opq 0 []),(17,.dat (.list (.int .i64))),(18,aL),(19,aL)],[.box 3 (.int .i64) aL,.box 4 .bool dA,.box 158 .opq (.fn 154 [] [(.ptr 3 dm 0 []),(.ptr 4 (.list (.int .i64)) 0 []),(.ptr 1 .bool 0 []),(.ptr 2 .opq 0 []),(.ptr 5 .opq 0 [])]),.box 32 dm (.dat dm),.box 81 (.list (.int .i64)) (.own (.int .i64) 6),.box 158 .opq (.fn 100 [] [(.ptr 0 (.int .i64) 0 [])]),.arr 3 (.int .i64) false]⟩ 0 ⟨[(8,.ptr 1 .bool 0 [])],[.box 3 (.int .i64) aL,.box 4 .bool dA]⟩
def Y5:aZ:=⟨99,⟨[(0,.dat dm),(1,.dat (.list (.int .i64))),(2,.fn 100 [] [(.ptr 0 (.int .i64) 0 [])])],Fq⟩,⟨[(0,dA)],Fq⟩,Gq⟩
def MI:bn:=cv [TO] [(0,Xw.go KH 1)] 1
theorem Zg:cd bk (MI).Γ:=bY ⟨aov,ai⟩
theorem apk:cR MI Tryz.f99 0 0:=cX (ay:=Xw) (b:=Eg) (m:=[]) Zg ai
theorem aqT:bc Y5:=cB (F:=MI) (fn:=Tryz.f99) (m:=dw Tryz.f99 [0]) Zg Tryz.func99 ⟨apk,ai⟩
def Y4:aZ:=⟨101,⟨[(0,.dat iC)],[]⟩,ew,Gp⟩
theorem aqS:bc Y4:=cg (l:=[]) Tryz.func101 ai
def Xu:bO:=⟨⟨[(2,.ptr 0 dm 0 []),(5,.ptr 1 (.list (.int .i64)) 0 []),(6,.fn 97 [] [(.ptr 0 dm 0 []),(.ptr 1 (.list (.int .i64)) 0 [])]),(33,.dat (.list iC)),(34,aL),(35,aL)],uu⟩,.ret,uw,(.exit 0),⟨[(2,.ptr 0 dm 0 []),(5,.ptr 1 (.list (.int .i64)) 0 [])],uu⟩⟩
def Xv:bO:=⟨⟨[(5,.ptr 0 (.list (.int .i64)) 0 []),(61,.dat (.list iC)),(62,aL),(63,aL)],[.box 81 (.list (.int .i64)) (.own (.int .i64) 1),.arr 3 (.int .i64) false]⟩,.ret,uw,(.exit 2),⟨[],[]⟩⟩
def Y3:aZ:=⟨42,⟨[(0,.dat dm),(1,.dat (.list (.int .i64)))],[]⟩,ew,wC⟩
def Kx:bn:=cv [aaf,W5,Y5,Y4] [(0,Xu.go MY 0),(2,Xv.go MZ 0)] 0
theorem adc:cd bk (Kx).Γ:=bY ⟨arV,aor,aqT,aqS,ai⟩
theorem api:cR Kx Tryz.f42 0 0:=cX (ay:=Xu) (b:=zo) (m:=[]) adc ai
theorem apj:cR Kx Tryz.f42 2 1:=cX (ay:=Xv) (b:=Ef) (m:=[]) adc ai
theorem aqR:bc Y3:=cB (F:=Kx) (fn:=Tryz.f42) (m:=dw Tryz.f42 [0,2]) adc Tryz.func42 ⟨api,apj,ai⟩
def aiU:bO:=⟨⟨[(5,.ptr 0 am 0 []),(7,dA),(9,.own bz 1),(11,.own am 2),(12,.ptr 3 jn 0 []),(13,aL)],UB⟩,.ret,⟨[(6,dA)],[]⟩,(.exit 0),⟨[(5,.ptr 0 am 0 []),(7,dA),(9,.own bz 1),(11,.own am 2),(12,.ptr 3 jn 0 [])],UB⟩⟩
def Tp:aZ:=⟨10,⟨[(0,.dat mY),(1,.dat (.list lB)),(2,.dat am)],[]⟩,ew,zd⟩
def Tq:bn:=cv [MA,ZO,N0,Gb,Nk,Mz,MF,TM,Yd,Y3] [(0,aiU.go Tx 0)] 0
theorem VS:cd bk (Tq).Γ:=bY ⟨Zu,aqv,asU,On,arA,aq0,aqE,ao4,apB,aqR,ai⟩
theorem anv:cR Tq Tryz.f10 0 0:=cX (ay:=aiU) (b:=Du) (m:=[]) VS ai
theorem anA:cE bk Tp:=pI (F:=Tq) (fn:=Tryz.f10) (m:=dw Tryz.f10 [0]) VS Tryz.func10 ⟨anv,ai⟩
end D
