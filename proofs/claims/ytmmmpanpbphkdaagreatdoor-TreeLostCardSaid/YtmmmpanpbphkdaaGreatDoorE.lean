import Derived.Test.YtmmmpanpbphkdaaGreatDoorEb
set_option linter.unusedVariables false
set_option maxRecDepth 100000
open Go Go.X Go.Proofs D
namespace D
def Wm:bL:=⟨⟨[(2,.ptr 0 er 0 []),(3,.ptr 1 ac 0 []),(90,.dat (.list (.int .i64))),(91,aN),(92,aN)],Ez⟩,.ret,zL,(.exit 2),⟨[(2,.ptr 0 er 0 []),(3,.ptr 1 ac 0 [])],Ez⟩⟩
def X6:aV:=⟨148,Kx,ez,zo⟩
def JH:bk:=cp [VR,Xq,aeR,afo] [(0,Wl.go L4 0),(2,Wm.go L5 0)] 0
theorem L3:ca bg (JH).Γ:=bT ⟨al0,anL,awl,awB,ag⟩
theorem anh:cL JH Tryz.f148 0 0:=cT (ar:=Wl) (b:=vM) (m:=[]) L3 ag
theorem ani:cL JH Tryz.f148 2 1:=cT (ar:=Wm) (b:=DG) (m:=[]) L3 ag
theorem an8:a6 X6:=cz (F:=JH) (fn:=Tryz.f148) (m:=dw Tryz.f148 [0,2]) L3 Tryz.func148 ⟨anh,ani,ag⟩
def Mg:aV:=⟨189,⟨[(0,.ptr 0 eA 0 [0]),(1,aN),(2,aN)],[.box 95 eA mE]⟩,⟨[],[.box 95 eA mE]⟩,tz⟩
def aoK:bk:=cp [] [] 1
theorem YY:a6 Mg:=cz (F:=aoK) (fn:=Tryz.f189) (m:=[]) (bT ag) Tryz.func189 ag
def S3:aV:=⟨189,⟨[(0,.ptr 0 eA 0 [1]),(1,aN),(2,aN)],[.box 95 eA mE]⟩,⟨[],[.box 95 eA mE]⟩,tc⟩
def amb:bk:=cp [] [] 1
theorem VO:a6 S3:=cz (F:=amb) (fn:=Tryz.f189) (m:=[]) (bT ag) Tryz.func189 ag
def Ht:aV:=⟨297,wF,iE,R8⟩
set_option maxHeartbeats 1000000 in
theorem axh (a:ByteArray) (c:Int) (w:World):Calls bg 297 #[.string a,.int .u8 c] w λe ao=>e=.returned (.int .i64 (Lib.indexByte a.data.toList c.toNat.toUInt8))/\ao=w:=by
  go_enter Tryz.func297,Tryz.ntmps297
  go_wp2
  rw[run_callFunc_extern Tryz.func301 (by kernel_rfl) (by kernel_rfl) (by kernel_rfl) (e:=Extern.BytealgIndexByte.indexByte) (by kernel_rfl),Lib.run_indexByteString]
  simp only[Result.andThen]
  rw[Oper.upon_value]
  go_wp2
  go_ret
  exact ⟨rfl,rfl⟩
theorem axB:cF bg Ht:=ajU (g:=λa c=>Lib.indexByte a c.toNat.toUInt8) Tryz.func297 (by kernel_rfl) axh
theorem agi:a6 Ht:=axB.x (by kernel_rfl)
def aha:aV:=⟨288,wF,iE,Vp⟩
theorem ak2:a6 aha:=cb (l:=[Ht]) Tryz.func288 ⟨agi,ag⟩
def agC:aV:=⟨289,⟨[(0,.dat (.int .i32))],[]⟩,ez,ag0⟩
theorem aki:a6 agC:=cb (l:=[]) Tryz.func289 ag
def agU:bL:=⟨⟨[(175,.ptr 0 .unit 0 [])],[.iter]⟩,.ret,⟨[(4,aN)],[]⟩,(.exit 9),⟨[],[]⟩⟩
def ahc:aV:=⟨271,⟨[(0,cW),(1,.dat (.int .i32))],[]⟩,iE,I4⟩
def u7:bk:=cp [aha,agC] [(9,agU.go ahl 0)] 0
theorem ahj:ca bg (u7).Γ:=bT ⟨ak2,aki,ag⟩
theorem akO:cL u7 Tryz.f271 1 1:=wT (λ_=>rfl)
theorem akP:cL u7 Tryz.f271 3 2:=wT (λ_=>rfl)
theorem akQ:cL u7 Tryz.f271 5 3:=wT (λ_=>rfl)
theorem akR:cL u7 Tryz.f271 7 4:=wT (λ_=>rfl)
theorem akN:cL u7 Tryz.f271 9 0:=cT (ar:=agU) (b:=ahi) (m:=[]) ahj ag
theorem ak4:a6 ahc:=cz (F:=u7) (fn:=Tryz.f271) (m:=dw Tryz.f271 [9,1,3,5,7]) ahj Tryz.func271 ⟨akN,akO,akP,akQ,akR,ag⟩
def agq:aV:=⟨272,iE,ez,agF⟩
theorem ax5:a6 agq:=cb (l:=[]) Tryz.func272 ag
def agM:bL:=⟨⟨[(1,cW),(45,.ptr 0 .unit 0 [])],[.iter]⟩,.ret,⟨[(4,aN)],[]⟩,(.exit 2),⟨[],[]⟩⟩
def akY:aV:=⟨254,ju,iE,SO⟩
def It:bk:=cp [ahc,agq] [(2,agM.go ag6 0)] 0
theorem ag5:ca bg (It).Γ:=bT ⟨ak4,ax5,ag⟩
theorem akz:cL It Tryz.f254 0 0:=wT (λ_=>rfl)
theorem akA:cL It Tryz.f254 2 1:=cT (ar:=agM) (b:=ag4) (m:=[]) ag5 ag
theorem akM:cF bg akY:=pJ (F:=It) (fn:=Tryz.f254) (m:=dw Tryz.f254 [0,2]) ag5 Tryz.func254 ⟨akz,akA,ag⟩
def ahx:Shape:=ju
def ahy:Shape:=iE
def SI:aV:=⟨254,ahx,ahy,V9⟩
theorem ak8:cF bg SI:=acR (f:=254) (S:=ahx) (Z:=ahy) (g1:=SO) (g2:=AO) akM (apG Tryz.lays153 (by kernel_rfl) Tryz.func254 (by kernel_rfl))
theorem ak9:a6 SI:=ak8.x (by kernel_rfl)
def U7:aV:=⟨241,⟨[(0,.ptr 0 Ji 0 [0])],Et⟩,⟨[(0,cW),(1,.dat (.int .u8))],Et⟩,Xd⟩
def alA:bk:=cp [SI] [] 1
theorem alK:a6 U7:=cz (F:=alA) (fn:=Tryz.f241) (m:=[]) (bT ⟨ak9,ag⟩) Tryz.func241 ag
def ahs:aV:=⟨224,⟨[(0,.ptr 0 Ji 0 [])],Et⟩,⟨[],Et⟩,WW⟩
def alp:bk:=cp [Sx,U7] [] 1
theorem alG:a6 ahs:=cz (F:=alp) (fn:=Tryz.f224) (m:=[]) (bT ⟨ahg,alK,ag⟩) Tryz.func224 ag
def agl:aV:=⟨292,ju,iE,agt⟩
def agm:bk:=n1 [Ht]
theorem axY:cL agm Tryz.f292 1 0:=wT (λ_=>rfl)
theorem axX:a6 agl:=cz (F:=agm) (fn:=Tryz.f292) (m:=dw Tryz.f292 [1]) (bT ⟨agi,ag⟩) Tryz.func292 ⟨axY,ag⟩
def agr:aV:=⟨275,ju,⟨[(0,cW),(1,cW),(2,du)],[]⟩,agB⟩
theorem ax6:a6 agr:=cb (l:=[agl]) Tryz.func275 ⟨axX,ag⟩
def WO:aV:=⟨255,ju,⟨[(0,cW),(1,cW),(2,du)],[]⟩,aaj⟩
theorem anI:a6 WO:=cb (l:=[agr]) Tryz.func255 ⟨ax6,ag⟩
def VS:aV:=⟨258,⟨[(0,.dat (.int .i32))],[]⟩,ez,Y3⟩
theorem al1:a6 VS:=cb (l:=[]) Tryz.func258 ag
def agV:bL:=⟨⟨[(1,.fn 258 [] []),(2,du),(10,.ptr 0 .unit 0 [])],[.iter]⟩,.ret,⟨[(6,aN)],[]⟩,(.exit 0),⟨[],[]⟩⟩
def ahd:aV:=⟨282,⟨[(0,cW),(1,.fn 258 [] []),(2,du)],[]⟩,iE,Vt⟩
def SA:bk:=cp [VS] [(0,agV.go aho 0)] 0
theorem ahn:ca bg (SA).Γ:=bT ⟨al1,ag⟩
theorem akS:cL SA Tryz.f282 0 0:=cT (ar:=agV) (b:=ahm) (m:=[]) ahn ag
theorem ak5:a6 ahd:=cz (F:=SA) (fn:=Tryz.f282) (m:=dw Tryz.f282 [0]) ahn Tryz.func282 ⟨akS,ag⟩
def ahb:aV:=⟨257,⟨[(0,cW),(1,.fn 258 [] [])],[]⟩,iE,Vq⟩
theorem ak3:a6 ahb:=cb (l:=[ahd]) Tryz.func257 ⟨ak5,ag⟩
def Tz:aV:=⟨244,gY,ez,Nf⟩
theorem Xc:a6 Tz:=cb (l:=[ahb]) Tryz.func244 ⟨ak3,ag⟩
def Wn:bL:=⟨gY,.ret,r0,(.exit 0),⟨[],[]⟩⟩
def Mh:aV:=⟨242,gY,ez,NN⟩
def LL:bk:=cp [WO,Tz] [(0,Wn.go Y1 0)] 0
theorem Y0:ca bg (LL).Γ:=bT ⟨anI,Xc,ag⟩
theorem anj:cL LL Tryz.f242 0 0:=cT (ar:=Wn) (b:=YZ) (m:=[]) Y0 ag
theorem Y2:a6 Mh:=cz (F:=LL) (fn:=Tryz.f242) (m:=dw Tryz.f242 [0]) Y0 Tryz.func242 ⟨anj,ag⟩
def rt:bL:=dV wF 0 gY
def agA:aV:=⟨277,wF,gY,ag7⟩
def Sh:bk:=cp [] [(0,rt.go agQ 0)] 0
theorem agP:ca bg (Sh).Γ:=bT ag
theorem akh:cL Sh Tryz.f277 0 0:=cT (ar:=rt) (b:=agO) (m:=[]) agP ag
theorem adc:a6 agA:=cz (F:=Sh) (fn:=Tryz.f277) (m:=dw Tryz.f277 [0]) agP Tryz.func277 ⟨akh,ag⟩
def agD:bL:=dV wF 0 gY
def agJ:aV:=⟨276,wF,gY,ahp⟩
def Sj:bk:=cp [] [(0,agD.go agY 0)] 0
theorem agX:ca bg (Sj).Γ:=bT ag
theorem akp:cL Sj Tryz.f276 0 0:=cT (ar:=agD) (b:=agW) (m:=[]) agX ag
theorem akw:a6 agJ:=cz (F:=Sj) (fn:=Tryz.f276) (m:=dw Tryz.f276 [0]) agX Tryz.func276 ⟨akp,ag⟩
def alz:aV:=⟨256,ju,gY,LD⟩
def alB:bk:=n1 [agA,agJ]
theorem al9:cF bg alz:=pJ (F:=alB) (fn:=Tryz.f256) (m:=[]) (bT ⟨adc,akw,ag⟩) Tryz.func256 ag
def WQ:Shape:=ju
def WR:Shape:=gY
def Ti:aV:=⟨256,WQ,WR,ZU⟩
theorem am7:cF bg Ti:=acR (f:=256) (S:=WQ) (Z:=WR) (g1:=LD) (g2:=AI) al9 (ah7 Tryz.lays160 (by kernel_rfl) Tryz.func256 (by kernel_rfl))
theorem am8:a6 Ti:=am7.x (by kernel_rfl)
end D
open Go Go.X Go.Proofs D
namespace D
def Wz:aV:=⟨243,gY,ez,Z3⟩
theorem anN:a6 Wz:=cb (l:=[Ti]) Tryz.func243 ⟨am8,ag⟩
def sG:bL:=⟨⟨[(1,.ptr 0 hr 0 []),(86,du)],wC⟩,.nrm,⟨[],[]⟩,.ret,zC⟩
def sE:bL:=⟨⟨[(1,.ptr 0 hr 0 []),(4,.ptr 1 hr 0 []),(66,du)],Es⟩,.nrm,⟨[],[]⟩,.ret,zC⟩
def sD:bL:=⟨⟨[(1,.ptr 0 hr 0 []),(4,.ptr 1 hr 0 []),(35,du)],Es⟩,.nrm,⟨[],[]⟩,.ret,zC⟩
def sC:bL:=⟨⟨[(1,.ptr 0 hr 0 []),(4,.ptr 1 hr 0 []),(23,du)],Es⟩,.nrm,⟨[],[]⟩,.ret,zC⟩
def sH:bL:=⟨⟨[(1,.ptr 0 hr 0 []),(4,.ptr 1 hr 0 []),(22,du)],Es⟩,.nrm,⟨[],[]⟩,.ret,zC⟩
def vY:aV:=⟨225,EH,⟨[(0,cW),(1,aN)],[]⟩,ab6⟩
def kE:bk:=n1 [Tz,Mh,Wz]
def oF:lA:=[(100010,sG.go vA 0),(100008,sE.go s0 0),(100006,sD.go qW 0),(100004,sC.go kw 0),(300003,sH.go s3 0)]
theorem alm (d:sG.S.ty.den): @Eq (N sG.Out) ((gD kE oF (eR (bX Tryz.f225) 100010) 0 (sG.S.enc d)).bind λ(e,st)=>sG.out (kE).m e st).val (vA d):=by kernel_rfl
theorem alj (d:sE.S.ty.den): @Eq (N sE.Out) ((gD kE oF (eR (bX Tryz.f225) 100008) 0 (sE.S.enc d)).bind λ(e,st)=>sE.out (kE).m e st).val (s0 d):=by kernel_rfl
theorem alh (d:sD.S.ty.den): @Eq (N sD.Out) ((gD kE oF (eR (bX Tryz.f225) 100006) 0 (sD.S.enc d)).bind λ(e,st)=>sD.out (kE).m e st).val (qW d):=by kernel_rfl
theorem alf (d:sC.S.ty.den): @Eq (N sC.Out) ((gD kE oF (eR (bX Tryz.f225) 100004) 0 (sC.S.enc d)).bind λ(e,st)=>sC.out (kE).m e st).val (kw d):=by kernel_rfl
theorem alo (d:sH.S.ty.den): @Eq (N sH.Out) ((gD kE oF (eR (bX Tryz.f225) 300003) 0 (sH.S.enc d)).bind λ(e,st)=>sH.out (kE).m e st).val (s3 d):=by kernel_rfl
theorem aqD (d:(vY).S.ty.den):(so kE oF Tryz.f225 (vY).S (vY).Z d).val=(vY).g d:=by kernel_rfl
theorem y8:ca bg (kE).Γ:=bT ⟨Xc,Y2,anN,ag⟩
theorem aln:jG bg kE Tryz.f225.ntmps (sG.go vA 0) (eR (bX Tryz.f225) 100010):=
  lQ ev y8 eK (ar:=sG) (k:=0) (f:=vA) (C:=oF) (l:=[]) (m:=[]) (by kernel_rfl) ag (by kernel_rfl) ag (by kernel_rfl) (eN _ (by kernel_rfl)) alm
theorem alk:jG bg kE Tryz.f225.ntmps (sE.go s0 0) (eR (bX Tryz.f225) 100008):=
  lQ ev y8 eK (ar:=sE) (k:=0) (f:=s0) (C:=oF) (l:=[]) (m:=[(sG.go vA 0,eR (bX Tryz.f225) 100010)]) (by kernel_rfl) ag (by kernel_rfl) ⟨aln,ag⟩ (by kernel_rfl) (eN _ (by kernel_rfl)) alj
theorem ali:jG bg kE Tryz.f225.ntmps (sD.go qW 0) (eR (bX Tryz.f225) 100006):=
  lQ ev y8 eK (ar:=sD) (k:=0) (f:=qW) (C:=oF) (l:=[]) (m:=[(sE.go s0 0,eR (bX Tryz.f225) 100008)]) (by kernel_rfl) ag (by kernel_rfl) ⟨alk,ag⟩ (by kernel_rfl) (eN _ (by kernel_rfl)) alh
theorem alg:jG bg kE Tryz.f225.ntmps (sC.go kw 0) (eR (bX Tryz.f225) 100004):=
  lQ ev y8 eK (ar:=sC) (k:=0) (f:=kw) (C:=oF) (l:=[]) (m:=[(sD.go qW 0,eR (bX Tryz.f225) 100006)]) (by kernel_rfl) ag (by kernel_rfl) ⟨ali,ag⟩ (by kernel_rfl) (eN _ (by kernel_rfl)) alf
theorem ak6:jG bg kE Tryz.f225.ntmps (sH.go s3 0) (eR (bX Tryz.f225) 300003):=
  lQ ev y8 eK (ar:=sH) (k:=0) (f:=s3) (C:=oF) (l:=[]) (m:=[(sC.go kw 0,eR (bX Tryz.f225) 100004)]) (by kernel_rfl) ag (by kernel_rfl) ⟨alg,ag⟩ (by kernel_rfl) (eN _ (by kernel_rfl)) alo
theorem aqE:cF bg vY:=
  Aa (C:=oF) (F:=kE) ev y8 eK (fn:=Tryz.f225) (l:=[]) (m:=[(sH.go s3 0,eR (bX Tryz.f225) 300003)]) Tryz.func225 (by kernel_rfl) (by kernel_rfl) (by kernel_rfl) ag (by kernel_rfl) ⟨ak6,ag⟩ (eN _ (by kernel_rfl)) (by kernel_rfl) aqD
theorem aqF:a6 vY:=(aqE).x (by kernel_rfl)
def JU:aV:=⟨191,gY,⟨[(0,.dat hr),(1,aN)],[]⟩,pw⟩
theorem L6:a6 JU:=cb (l:=[ahs,vY]) Tryz.func191 ⟨alG,aqF,ag⟩
def X5:aV:=⟨190,⟨[(0,aN),(1,aN),(2,.ptr 0 .opq 0 []),(3,.ptr 1 eA 0 [])],[.box 242 .opq (.fn 189 [] []),.box 95 eA mE]⟩,⟨[],[.box 242 .opq (.fn 189 [] []),.box 95 eA mE]⟩,zn⟩
def aoL:bk:=cp [Mg,S3] [] 2
theorem an7:a6 X5:=cz (F:=aoL) (fn:=Tryz.f190) (m:=[]) (bT ⟨YY,VO,ag⟩) Tryz.func190 ag
def Zg:aV:=⟨226,gY,iE,FO⟩
theorem apb:a6 Zg:=cb (l:=[Mh,JU]) Tryz.func226 ⟨Y2,L6,ag⟩
def X7:aV:=⟨192,ju,ez,Ad⟩
theorem an9:a6 X7:=cb (l:=[Zg]) Tryz.func192 ⟨apb,ag⟩
def Wb:aV:=⟨223,EI,uj,Kb⟩
theorem amo:a6 Wb:=cb (l:=[JU]) Tryz.func223 ⟨L6,ag⟩
def V3:bL:=dV ⟨[(2,.ptr 0 iQ 0 []),(3,.ptr 1 iQ 0 []),(7,.dat (.list bs)),(8,aN),(9,aN)],Ex⟩ 0 ⟨[(2,.ptr 0 iQ 0 []),(3,.ptr 1 iQ 0 [])],Ex⟩
def Wy:aV:=⟨188,uh,uj,E6⟩
def Lg:bk:=cp [Wb] [(0,V3.go KY 0)] 0
theorem XE:ca bg (Lg).Γ:=bT ⟨amo,ag⟩
theorem amp:cL Lg Tryz.f188 0 0:=cT (ar:=V3) (b:=Dj) (m:=[]) XE ag
theorem anb:a6 Wy:=cz (F:=Lg) (fn:=Tryz.f188) (m:=dw Tryz.f188 [0]) XE Tryz.func188 ⟨amp,ag⟩
def Ym:bL:=dV ⟨[(1,.ptr 0 er 0 []),(2,.ptr 1 eA 0 []),(3,.ptr 2 eA 0 []),(5,.ptr 3 .opq 0 []),(35,.dat (.list eA)),(36,aN),(37,aN)],T5⟩ 0 ⟨[(1,.ptr 0 er 0 []),(2,.ptr 1 eA 0 []),(3,.ptr 2 eA 0 []),(5,.ptr 3 .opq 0 [])],T5⟩
def Yn:bL:=dV ⟨[(2,.ptr 0 eA 0 []),(3,.ptr 1 eA 0 []),(5,.ptr 2 .opq 0 []),(8,.fn 190 [] [(.ptr 2 .opq 0 []),(.ptr 1 eA 0 [])]),(62,.dat (.list dx)),(63,aN),(64,aN)],[.box 95 eA mE,.box 95 eA mE,.box 242 .opq (.fn 189 [] [])]⟩ 2 ⟨[(2,.ptr 0 eA 0 []),(3,.ptr 1 eA 0 [])],[.box 95 eA mE,.box 95 eA mE]⟩
def aan:aV:=⟨149,⟨[(0,.dat er)],[]⟩,wB,uz⟩
def E3:bk:=cp [Mg,S3,JU,X5,X7,Wy] [(0,Ym.go Nc 0),(2,Yn.go Nd 0)] 0
theorem Nb:ca bg (E3).Γ:=bT ⟨YY,VO,L6,an7,an9,anb,ag⟩
theorem ao9:cL E3 Tryz.f149 0 0:=cT (ar:=Ym) (b:=Eg) (m:=[]) Nb ag
theorem apa:cL E3 Tryz.f149 2 1:=cT (ar:=Yn) (b:=tp) (m:=[]) Nb ag
theorem aqA:a6 aan:=cz (F:=E3) (fn:=Tryz.f149) (m:=dw Tryz.f149 [0,2]) Nb Tryz.func149 ⟨ao9,apa,ag⟩
def yy:bL:=⟨⟨[(3,aN),(4,.ptr 0 dC 0 []),(9,.ptr 1 er 0 []),(11,aN),(39,.own ac 2),(40,aN),(41,aN)],[.box 32 dC (.dat dC),.box 85 er (.dat er),.arr 39 ac false]⟩,.ret,⟨[(8,aN)],[]⟩,(.exit 0),⟨[(11,aN)],[]⟩⟩
def Le:aV:=⟨91,yH,yJ,Nq⟩
def Dr (fN:(bZ×Int×aK×Int×G)->N (Int×G)):bk:=cp [tn,Mf,tl,(Jf fN),X6,aan] [(0,yy.go (Jx fN) 0)] 0
theorem ama (fN:(bZ×Int×aK×Int×G)->N (Int×G)) (d:yy.S.ty.den): @Eq (N (yy.S.ty.den⊕yy.Out)) (yy.body (Dr fN) (hy (bX Tryz.f91) 0) 0 d).val (vJ fN d):=by kernel_rfl
theorem aoG (fN:(bZ×Int×aK×Int×G)->N (Int×G)) (d:yH.ty.den): @Eq (N yJ.ty.den) (mM (Dr fN) Tryz.f91 yH yJ d).val (ns fN d):=by kernel_rfl
theorem XM (fN:(bZ×Int×aK×Int×G)->N (Int×G)) (y1:cF bg (Jf fN)):ca bg (Dr fN).Γ:=bT ⟨y9,YX,yZ,(y1.x (by kernel_rfl)),an8,aqA,ag⟩
theorem amF (fN:(bZ×Int×aK×Int×G)->N (Int×G)) (y1:cF bg (Jf fN)):hl bg (Dr fN) Tryz.f91.ntmps 0 (hy (bX Tryz.f91) 0):=
  tP ev (XM fN y1) eK (ar:=yy) (f:=Jx fN) (b:=vJ fN) (m:=[]) (λ_=>rfl) (by kernel_rfl) (by kernel_rfl) ag (by kernel_rfl) (eN _ (by kernel_rfl)) (ama fN)
theorem alc (fN:(bZ×Int×aK×Int×G)->N (Int×G)) (y1:cF bg (Jf fN)):cF bg ⟨91,yH,yJ,ns fN⟩:=
  tO (F:=(Dr fN)) ev (XM fN y1) eK (fn:=Tryz.f91) (m:=dw Tryz.f91 [0]) Tryz.func91 (by kernel_rfl) (by kernel_rfl) (by kernel_rfl) ⟨amF fN y1,ag⟩ (eN _ (by kernel_rfl)) (by kernel_rfl) (aoG fN)
theorem ahD: ∀n,cF bg ⟨91,yH,yJ,og n⟩
  |0=>F5
  |n+1=>alc _ (ahD n)
theorem aoH:cF bg Le:=ahD kZ
theorem aoI:a6 Le:=(aoH).x (by kernel_rfl)
def DA:Shape:=EJ
def DC:Shape:=ez
def LI:aV:=⟨31,DA,DC,zq⟩
def aoN:bk:=n1 [LJ,Le]
theorem YN:cF bg LI:=pJ (F:=aoN) (fn:=Tryz.f31) (m:=[]) (bT ⟨YO,aoI,ag⟩) Tryz.func31 ag
theorem ao3:a6 LI:=YN.x (by kernel_rfl)
def sM:bL:=⟨⟨[(1,.ptr 0 fY 0 []),(2,.ptr 1 bs 0 []),(3,du),(4,aN),(7,du),(8,aN),(10,.own bs 2),(16,.ptr 3 fY 0 []),(18,du)],[.box 36 fY (.dat fY),.box 58 bs (.dat bs),.arr 58 bs false,.box 36 fY (.dat fY)]⟩,.ret,ez,(.exit 90000009),⟨[],[]⟩⟩
def Jn:Shape:=⟨[],[]⟩
def Jo:Shape:=ez
def Td:aV:=⟨21,Jn,Jo,MC⟩
def yz (fu:(c4×M×G)->N px) (fx:(hi×G)->N (c4×Int×G)) (fH:(c4×bB×G)->N (c4×Int×G)) (fv:(c4×G)->N (Int×G)) (fF:G->N (c4×G)) (fI:(c4×aK×G)->N (Int×aj×G)) (fG:(aj×aj×G)->N (Bool×G)) (fq:(c4×G)->N (Bool×G)):bk:=n1 [⟨81,v8,wa,fu⟩,⟨40,D8,Ea,fx⟩,⟨15,D7,D9,fH⟩,⟨17,rx,Di,fv⟩,⟨80,Ds,Dt,fF⟩,⟨27,vQ,vR,fI⟩,⟨29,Dz,DB,fG⟩,⟨31,DA,DC,fq⟩]
def ut (fu:(c4×M×G)->N px) (fx:(hi×G)->N (c4×Int×G)) (fH:(c4×bB×G)->N (c4×Int×G)) (fv:(c4×G)->N (Int×G)) (fF:G->N (c4×G)) (fI:(c4×aK×G)->N (Int×aj×G)) (fG:(aj×aj×G)->N (Bool×G)) (fq:(c4×G)->N (Bool×G)):lA:=[(9,sM.go (o8 fu fx fH fv fF fI fG fq) 0)]
theorem alC (fu:(c4×M×G)->N px) (fx:(hi×G)->N (c4×Int×G)) (fH:(c4×bB×G)->N (c4×Int×G)) (fv:(c4×G)->N (Int×G)) (fF:G->N (c4×G)) (fI:(c4×aK×G)->N (Int×aj×G)) (fG:(aj×aj×G)->N (Bool×G)) (fq:(c4×G)->N (Bool×G)) (d:sM.S.ty.den): @Eq (N sM.Out) ((gD (yz fu fx fH fv fF fI fG fq) (ut fu fx fH fv fF fI fG fq) (eR (bX Tryz.f21) 9) 0 (sM.S.enc d)).bind λ(e,st)=>sM.out (yz fu fx fH fv fF fI fG fq).m e st).val (o8 fu fx fH fv fF fI fG fq d):=by kernel_rfl
theorem amq (fu:(c4×M×G)->N px) (fx:(hi×G)->N (c4×Int×G)) (fH:(c4×bB×G)->N (c4×Int×G)) (fv:(c4×G)->N (Int×G)) (fF:G->N (c4×G)) (fI:(c4×aK×G)->N (Int×aj×G)) (fG:(aj×aj×G)->N (Bool×G)) (fq:(c4×G)->N (Bool×G)) (d:Jn.ty.den): @Eq (N Jo.ty.den) (so (yz fu fx fH fv fF fI fG fq) (ut fu fx fH fv fF fI fG fq) Tryz.f21 Jn Jo d).val (S0 fu fx fH fv fF fI fG fq d):=by kernel_rfl
theorem WS (fu:(c4×M×G)->N px) (zi:cF bg ⟨81,v8,wa,fu⟩) (fx:(hi×G)->N (c4×Int×G)) (zk:cF bg ⟨40,D8,Ea,fx⟩) (fH:(c4×bB×G)->N (c4×Int×G)) (zh:cF bg ⟨15,D7,D9,fH⟩) (fv:(c4×G)->N (Int×G)) (zj:cF bg ⟨17,rx,Di,fv⟩) (fF:G->N (c4×G)) (zf:cF bg ⟨80,Ds,Dt,fF⟩) (fI:(c4×aK×G)->N (Int×aj×G)) (zl:cF bg ⟨27,vQ,vR,fI⟩) (fG:(aj×aj×G)->N (Bool×G)) (zg:cF bg ⟨29,Dz,DB,fG⟩) (fq:(c4×G)->N (Bool×G)) (zm:cF bg ⟨31,DA,DC,fq⟩):ca bg (yz fu fx fH fv fF fI fG fq).Γ:=bT ⟨(zi.x (by kernel_rfl)),(zk.x (by kernel_rfl)),(zh.x (by kernel_rfl)),(zj.x (by kernel_rfl)),(zf.x (by kernel_rfl)),(zl.x (by kernel_rfl)),(zg.x (by kernel_rfl)),(zm.x (by kernel_rfl)),ag⟩
theorem alD (fu:(c4×M×G)->N px) (zi:cF bg ⟨81,v8,wa,fu⟩) (fx:(hi×G)->N (c4×Int×G)) (zk:cF bg ⟨40,D8,Ea,fx⟩) (fH:(c4×bB×G)->N (c4×Int×G)) (zh:cF bg ⟨15,D7,D9,fH⟩) (fv:(c4×G)->N (Int×G)) (zj:cF bg ⟨17,rx,Di,fv⟩) (fF:G->N (c4×G)) (zf:cF bg ⟨80,Ds,Dt,fF⟩) (fI:(c4×aK×G)->N (Int×aj×G)) (zl:cF bg ⟨27,vQ,vR,fI⟩) (fG:(aj×aj×G)->N (Bool×G)) (zg:cF bg ⟨29,Dz,DB,fG⟩) (fq:(c4×G)->N (Bool×G)) (zm:cF bg ⟨31,DA,DC,fq⟩):jG bg (yz fu fx fH fv fF fI fG fq) Tryz.f21.ntmps (sM.go (o8 fu fx fH fv fF fI fG fq) 0) (eR (bX Tryz.f21) 9):=
  lQ ev (WS fu zi fx zk fH zh fv zj fF zf fI zl fG zg fq zm) eK (ar:=sM) (k:=0) (f:=o8 fu fx fH fv fF fI fG fq) (C:=(ut fu fx fH fv fF fI fG fq)) (l:=[]) (m:=[]) (by kernel_rfl) ag (by kernel_rfl) ag (by kernel_rfl) (eN _ (by kernel_rfl)) (alC fu fx fH fv fF fI fG fq)
theorem ak1 (fu:(c4×M×G)->N px) (zi:cF bg ⟨81,v8,wa,fu⟩) (fx:(hi×G)->N (c4×Int×G)) (zk:cF bg ⟨40,D8,Ea,fx⟩) (fH:(c4×bB×G)->N (c4×Int×G)) (zh:cF bg ⟨15,D7,D9,fH⟩) (fv:(c4×G)->N (Int×G)) (zj:cF bg ⟨17,rx,Di,fv⟩) (fF:G->N (c4×G)) (zf:cF bg ⟨80,Ds,Dt,fF⟩) (fI:(c4×aK×G)->N (Int×aj×G)) (zl:cF bg ⟨27,vQ,vR,fI⟩) (fG:(aj×aj×G)->N (Bool×G)) (zg:cF bg ⟨29,Dz,DB,fG⟩) (fq:(c4×G)->N (Bool×G)) (zm:cF bg ⟨31,DA,DC,fq⟩):cF bg ⟨21,Jn,Jo,S0 fu fx fH fv fF fI fG fq⟩:=
  Aa (C:=(ut fu fx fH fv fF fI fG fq)) (F:=(yz fu fx fH fv fF fI fG fq)) ev (WS fu zi fx zk fH zh fv zj fF zf fI zl fG zg fq zm) eK (fn:=Tryz.f21) (l:=[]) (m:=[(sM.go (o8 fu fx fH fv fF fI fG fq) 0,eR (bX Tryz.f21) 9)]) Tryz.func21 (by kernel_rfl) (by kernel_rfl) (by kernel_rfl) ag (by kernel_rfl) ⟨alD fu zi fx zk fH zh fv zj fF zf fI zl fG zg fq zm,ag⟩ (eN _ (by kernel_rfl)) (by kernel_rfl) (amq fu fx fH fv fF fI fG fq)
theorem amr:cF bg Td:=ak1 pF aal OI aqi qu aak Np aoF M9 ang lR ZX wh Yz zq YN
theorem ams:a6 Td:=(amr).x (by kernel_rfl)
def Vz:bL:=dV ⟨[(2,.ptr 0 dC 0 []),(5,.own .bool 1),(6,.dat (.list (.int .i64)))],[.box 32 dC (.dat dC),.arr 4 .bool false]⟩ 0 ⟨[(5,.own .bool 0)],[.arr 4 .bool false]⟩
def VA:bL:=dV ⟨[(5,.own .bool 0),(8,.own (.int .i64) 1),(9,aN)],[.arr 4 .bool false,.arr 3 (.int .i64) false]⟩ 2 ⟨[(8,.own (.int .i64) 0)],[.arr 3 (.int .i64) false]⟩
def WM:aV:=⟨82,⟨[(0,.dat dC),(1,.dat (.list (.int .i64)))],[]⟩,⟨[(0,.own (.int .i64) 0)],[.arr 3 (.int .i64) false]⟩,Fb⟩
def Jr:bk:=cp [Dx] [(0,Vz.go Lz 0),(2,VA.go LA 0)] 0
theorem Ly:ca bg (Jr).Γ:=bT ⟨JR,ag⟩
theorem amY:cL Jr Tryz.f82 0 0:=cT (ar:=Vz) (b:=s7) (m:=[]) Ly ag
theorem amZ:cL Jr Tryz.f82 2 1:=cT (ar:=VA) (b:=yD) (m:=[]) Ly ag
theorem anx:a6 WM:=cz (F:=Jr) (fn:=Tryz.f82) (m:=dw Tryz.f82 [0,2]) Ly Tryz.func82 ⟨amY,amZ,ag⟩
def Yh:aV:=⟨22,⟨[(0,.dat fY),(1,.dat (.int .u8))],[]⟩,⟨[(0,.agg [(.agg [(.own hZ 0)]),aN,(.dat rH)])],zM⟩,Fy⟩
theorem aot:a6 Yh:=cb (l:=[WM]) Tryz.func22 ⟨anx,ag⟩
def Wk:bL:=dV ⟨[(1,.own .str 0),(2,.dat (.int .u8))],ue⟩ 0 ⟨[(1,.own .str 0)],ue⟩
def X3:aV:=⟨23,⟨[],[]⟩,⟨[(0,.own .str 0)],ue⟩,we⟩
def LK:bk:=cp [MP] [(0,Wk.go YV 0)] 0
theorem YU:ca bg (LK).Γ:=bT ⟨ZJ,ag⟩
theorem anf:cL LK Tryz.f23 0 0:=cT (ar:=Wk) (b:=YT) (m:=[]) YU ag
theorem an1:a6 X3:=cz (F:=LK) (fn:=Tryz.f23) (m:=dw Tryz.f23 [0]) YU Tryz.func23 ⟨anf,ag⟩
def Zd:aV:=⟨24,⟨[(0,.dat fY),(1,cW)],[]⟩,⟨[(0,.dat Af)],[]⟩,An⟩
theorem aux:a6 Zd:=cb (l:=[Nk]) Tryz.func24 ⟨aqh,ag⟩
end D
open Go Go.X Go.Proofs D
namespace D
end D
open Go Go.X Go.Proofs D
namespace D
def ahv:bL:=⟨⟨[(5,.ptr 0 hY 0 []),(7,du),(8,.ptr 1 fY 0 []),(9,.ptr 2 fY 0 []),(10,du),(11,.own .str 3),(12,aN)],[.box 28 hY (.dat hY),.box 36 fY (.dat fY),.box 36 fY (.agg [(.agg [(.own hZ 4)]),aN,(.dat rH)]),.arr 9 .str false,.arr 87 hZ true]⟩,.ret,⟨[(6,du)],[]⟩,(.exit 0),⟨[(5,.ptr 0 hY 0 []),(7,du),(8,.ptr 1 fY 0 []),(9,.ptr 2 fY 0 []),(10,du)],[.box 28 hY (.dat hY),.box 36 fY (.dat fY),.box 36 fY (.agg [(.agg [(.own hZ 3)]),aN,(.dat rH)]),.arr 87 hZ true]⟩⟩
def ahw:bL:=⟨⟨[(5,.ptr 0 hY 0 []),(7,du),(8,.ptr 1 fY 0 []),(9,.ptr 2 fY 0 []),(10,du),(15,.own ac 3),(16,aN)],[.box 28 hY (.dat hY),.box 36 fY (.dat fY),.box 36 fY (.agg [(.agg [(.own hZ 4)]),aN,(.dat rH)]),.arr 39 ac false,.arr 87 hZ true]⟩,.ret,⟨[(6,du)],[]⟩,(.exit 2),⟨[(5,.ptr 0 hY 0 []),(7,du),(9,.ptr 1 fY 0 []),(10,du)],[.box 28 hY (.dat hY),.box 36 fY (.agg [(.agg [(.own hZ 2)]),aN,(.dat rH)]),.arr 87 hZ true]⟩⟩
def SP:aV:=⟨8,⟨[(0,.dat mR),(1,.dat jU),(2,.dat hY)],[]⟩,ez,yK⟩
def I0:bk:=cp [s9,Tg,Yi,Nj,MS,Ml,LI,Td,Yh,X3,Zd] [(0,ahv.go SR 0),(2,ahw.go SS 0)] 0
theorem SQ:ca bg (I0).Γ:=bT ⟨YB,W6,aou,aqf,ap5,aoi,ao3,ams,aot,an1,aux,ag⟩
theorem alv:cL I0 Tryz.f8 0 0:=cT (ar:=ahv) (b:=yr) (m:=[]) SQ ag
theorem alw:cL I0 Tryz.f8 2 1:=cT (ar:=ahw) (b:=ys) (m:=[]) SQ ag
theorem alX:cF bg SP:=pJ (F:=I0) (fn:=Tryz.f8) (m:=dw Tryz.f8 [0,2]) SQ Tryz.func8 ⟨alv,alw,ag⟩
end D
