import Derived.Test.YtmmmpanpbphkdaaGreatDoorEa
set_option linter.unusedVariables false
set_option maxRecDepth 100000
open Go Go.X Go.Proofs D
namespace D
theorem abp:cE bk N0:=pI (F:=arE) (fn:=Tryz.f15) (m:=[]) (bY ⟨zG,zz,aba,aap,aao,arU,azp,ai⟩) Tryz.func15 ai
theorem asU:bc N0:=abp.x aD
def WI:bO:=ec ⟨[(1,.ptr 0 jn 0 []),(3,.ptr 1 ey 0 []),(5,aL)],[.box 36 jn (.dat jn),.box 85 ey (.dat ey)]⟩ 0 ⟨[(5,aL)],[]⟩
def DY:Shape:=Fp
def DN:Shape:=iB
def apc:aZ:=⟨17,DY,DN,N8⟩
def L5:bn:=cv [tx,tr] [(0,WI.go YD 0)] 0
theorem YC:cd bk (L5).Γ:=bY ⟨zG,zz,ai⟩
theorem aoS:cR L5 Tryz.f17 0 0:=cX (ay:=WI) (b:=YB) (m:=[]) YC ai
theorem apU:cE bk apc:=pI (F:=L5) (fn:=Tryz.f17) (m:=dw Tryz.f17 [0]) YC Tryz.func17 ⟨aoS,ai⟩
def XQ:bO:=ec ⟨[(3,aL),(7,.dat (.list iC)),(8,aL),(9,aL)],[]⟩ 0 ⟨[(3,aL)],[]⟩
def aaf:aZ:=⟨19,⟨[(0,.dat dm)],[]⟩,iB,GC⟩
def No:bn:=cv [] [(0,XQ.go NI 0)] 0
theorem aav:cd bk (No).Γ:=bY ai
theorem aqQ:cR No Tryz.f19 0 0:=cX (ay:=XQ) (b:=zv) (m:=[]) aav ai
theorem arV:bc aaf:=cB (F:=No) (fn:=Tryz.f19) (m:=dw Tryz.f19 [0]) aav Tryz.func19 ⟨aqQ,ai⟩
def rx:Shape:=⟨[],[]⟩
def DM:Shape:=Fp
def apb:aZ:=⟨80,rx,DM,NU⟩
def apd:bn:=oc [Ni,MC]
theorem apG:cE bk apb:=pI (F:=apd) (fn:=Tryz.f80) (m:=[]) (bY ⟨aaT,Zy,ai⟩) Tryz.func80 ai
def S2:aZ:=⟨85,⟨[(0,.ptr 0 fO 0 []),(1,aL),(2,.dat ac),(3,.dat (.list ac))],[.box 143 fO mN]⟩,⟨[(0,.fn 135 [] [(.ptr 1 .opq 0 []),(.ptr 2 (.int .i64) 0 []),(.ptr 3 ac 0 []),(.ptr 4 (.list ac) 0 [])])],[.box 143 fO mN,.box 141 .opq (.ptr 0 fO 0 []),.box 3 (.int .i64) aL,.box 39 ac (.dat ac),.box 62 (.list ac) (.dat (.list ac))]⟩,qZ⟩
def amC:bn:=cv [] [] 1
theorem aiA:bc S2:=cB (F:=amC) (fn:=Tryz.f85) (m:=[]) (bY ai) Tryz.func85 ai
def yh:Shape:=⟨[(0,.ptr 0 fO 0 []),(1,.dat ey),(2,.dat ac),(3,.dat (.list ac))],[.box 143 fO mN]⟩
def yi:Shape:=⟨[(0,.dat (.list bz))],[.box 143 fO mN]⟩
def pX (cZ:(cz×aK×aw×bF×Int×H)->O (ak×bF×Int×H)):aZ:=⟨136,yh,yi,cZ⟩
def So:aZ:=⟨234,uq,⟨jT,cF⟩,Iv⟩
def ay1:bn:=mc hy (hQ []) (λ_ _=>.fail) 0
theorem ay7:cE bk So:=
  acb (F:=ay1) eB (bY ai) eQ (fn:=Tryz.f234) Tryz.func234 aD aD aD aD aD (λd=>(decide ((List.length ([]:aw)+List.length d.1)*32<=bC))) (λd=>(d.1,())) (λd=>([],())) (λd=>List.length d.1) (λd=>rfl) (λd=>aD) (λd=>aD) (λd h=>congrArg (λl=>(l,())) (List.eq_nil_of_length_eq_zero h).symm)
theorem ay8:bc So:=ay7.x aD
def ags:bO:=⟨⟨[(0,.own ac 0),(1,.fn 74 [] []),(7,aL),(8,aL)],cF⟩,.ret,⟨[(4,aL)],cF⟩,(.exit 0),⟨[],cF⟩⟩
def af9:aZ:=⟨116,⟨[(0,.own ac 0),(1,.fn 74 [] [])],cF⟩,⟨[(0,aL)],cF⟩,xV⟩
def QD:bn:=cv [rD] [(0,ags.go QJ 1)] 1
theorem agn:cd bk (QD).Γ:=bY ⟨tq,ai⟩
theorem axu:cR QD Tryz.f116 0 0:=cX (ay:=ags) (b:=Cd) (m:=[]) agn ai
theorem axU:bc af9:=cB (F:=QD) (fn:=Tryz.f116) (m:=dw Tryz.f116 [0]) agn Tryz.func116 ⟨axu,ai⟩
def agi:bO:=ec ⟨[(0,.own ac 0),(1,.fn 74 [] []),(5,aL),(6,aL)],cF⟩ 0 ⟨[(0,.own ac 0),(5,aL)],cF⟩
def agJ:aZ:=⟨233,⟨[(0,.own ac 0),(1,.fn 74 [] [])],cF⟩,⟨[(0,.own ac 1)],[.gone,.arr 39 ac false]⟩,B8⟩
def Qz:bn:=cv [rD,af9] [(0,agi.go QZ 1)] 1
theorem agO:cd bk (Qz).Γ:=bY ⟨tq,axU,ai⟩
theorem rc:cR Qz Tryz.f233 0 0:=cX (ay:=agi) (b:=xT) (m:=[]) agO ai
theorem ayj:bc agJ:=cB (F:=Qz) (fn:=Tryz.f233) (m:=dw Tryz.f233 [0]) agO Tryz.func233 ⟨rc,ai⟩
def VL:aZ:=⟨269,Lj,iB,TX⟩
theorem anj:bc VL:=cg (l:=[]) Tryz.func269 ai
def TE:aZ:=⟨252,Lj,iB,zn⟩
theorem WJ:bc TE:=cg (l:=[VL]) Tryz.func252 ⟨anj,ai⟩
def x5:Shape:=⟨Fa,cF⟩
def x6:Shape:=⟨[],cF⟩
def sC (cn:(Int×Int×Int×aw×H)->O (aw×H)):aZ:=⟨251,x5,x6,cn⟩
def ais:aZ:=⟨237,jF,iB,Jn⟩
theorem amD:bc ais:=cg (l:=[Th]) Tryz.func237 ⟨aiX,ai⟩
def tj:aZ:=⟨236,Ag,iB,ld⟩
theorem vY:bc tj:=cg (l:=[ais]) Tryz.func236 ⟨amD,ai⟩
def af3:bO:=ec ⟨[(0,.own ac 0),(1,aL),(2,aL),(3,.fn 236 [] []),(8,aL),(9,aL)],cF⟩ 2 ⟨[(0,.own ac 0),(1,aL),(2,aL),(3,.fn 236 [] []),(8,aL)],cF⟩
def af2:bO:=ec ⟨[(0,.own ac 0),(1,aL),(2,aL),(3,.fn 236 [] []),(8,aL)],cF⟩ 0 ⟨[],cF⟩
def agC:aZ:=⟨260,⟨wS,cF⟩,⟨[],cF⟩,HR⟩
def H2:bn:=cv [tj] [(2,af3.go H3 1),(0,af2.go Qx 1)] 1
theorem Qw:cd bk (H2).Γ:=bY ⟨vY,ai⟩
theorem agZ:cR H2 Tryz.f260 2 1:=cX (ay:=af3) (b:=xR) (m:=[]) Qw ai
theorem axJ:cR H2 Tryz.f260 0 0:=cX (ay:=af2) (b:=Ch) (m:=[(2,hp (b7 Tryz.f260) 1)]) Qw ⟨agZ,ai⟩
theorem ax6:bc agC:=cB (F:=H2) (fn:=Tryz.f260) (m:=dw Tryz.f260 [0,2]) Qw Tryz.func260 ⟨axJ,agZ,ai⟩
def ahd:bO:=⟨⟨[(0,.own ac 0),(2,aL),(3,aL),(4,.fn 236 [] []),(10,aL)],cF⟩,(.exit 0),⟨[],cF⟩,.ret,⟨[],cF⟩⟩
def aht:aZ:=⟨283,⟨Fa,cF⟩,⟨[],cF⟩,Cj⟩
def i8:bn:=cv [tj] [(0,ahd.go Sl 1)] 1
theorem ahx:cd bk (i8).Γ:=bY ⟨vY,ai⟩
theorem un:cR i8 Tryz.f283 0 0:=cX (ay:=ahd) (b:=va) (m:=[]) ahx ai
theorem ayU:bc aht:=cB (F:=i8) (fn:=Tryz.f283) (m:=dw Tryz.f283 [0]) ahx Tryz.func283 ⟨un,ai⟩
def ahb:bO:=ec ⟨[(0,.own ac 0),(3,.fn 236 [] []),(8,aL),(9,aL),(10,aL),(11,aL)],cF⟩ 0 ⟨[(0,.own ac 0),(3,.fn 236 [] []),(8,aL),(9,aL),(10,aL)],cF⟩
def ahc:bO:=ec ⟨[(0,.own ac 0),(3,.fn 236 [] []),(8,aL),(9,aL),(12,aL)],cF⟩ 2 ⟨[],cF⟩
def ahs:aZ:=⟨261,⟨wS,cF⟩,⟨[],cF⟩,Is⟩
def H7:bn:=cv [aht] [(0,ahb.go Sj 1),(2,ahc.go Sk 1)] 1
theorem Si:cd bk (H7).Γ:=bY ⟨ayU,ai⟩
theorem ayY:cR H7 Tryz.f261 0 0:=cX (ay:=ahb) (b:=Cl) (m:=[]) Si ai
theorem ul:cR H7 Tryz.f261 2 1:=cX (ay:=ahc) (b:=Cm) (m:=[]) Si ai
theorem ayS:bc ahs:=cB (F:=H7) (fn:=Tryz.f261) (m:=dw Tryz.f261 [0,2]) Si Tryz.func261 ⟨ayY,ul,ai⟩
def ahC:aZ:=⟨296,⟨[(0,.own ac 0),(1,aL),(2,aL),(3,.ptr 1 (.int .i64) 0 []),(4,.fn 236 [] [])],wV⟩,⟨[(0,aL),(1,aL)],wV⟩,ya⟩
def azd:bn:=cv [tj] [] 2
theorem azi:bc ahC:=cB (F:=azd) (fn:=Tryz.f296) (m:=[]) (bY ⟨vY,ai⟩) Tryz.func296 ai
def Sq:aZ:=⟨287,⟨[(0,.own ac 0),(1,aL),(2,aL),(3,aL),(4,.ptr 1 (.int .i64) 0 []),(5,.fn 236 [] [])],wV⟩,⟨[(0,aL)],wV⟩,Cn⟩
def azc:bn:=cv [ahC] [] 2
theorem ahD:bc Sq:=cB (F:=azc) (fn:=Tryz.f287) (m:=[]) (bY ⟨azi,ai⟩) Tryz.func287 ai
def age:aZ:=⟨286,⟨[(0,.own ac 0),(1,aL),(2,.ptr 1 (.int .i64) 0 []),(3,.fn 236 [] [])],wV⟩,⟨[(0,aL)],wV⟩,xW⟩
def axQ:bn:=cv [Sq] [] 2
theorem axK:bc age:=cB (F:=axQ) (fn:=Tryz.f286) (m:=[]) (bY ⟨ahD,ai⟩) Tryz.func286 ai
def lc:aZ:=⟨263,⟨wS,cF⟩,⟨[(0,aL),(1,aL)],cF⟩,H8⟩
def ayb:bn:=cv [Sq,age] [] 1
theorem ayg:bc lc:=cB (F:=ayb) (fn:=Tryz.f263) (m:=[]) (bY ⟨ahD,axK,ai⟩) Tryz.func263 ai
def agk:bO:=ec ⟨[(0,.own ac 0),(8,aL),(9,aL)],cF⟩ 0 ⟨[],cF⟩
def agL:aZ:=⟨264,⟨wS,cF⟩,⟨[],cF⟩,Ca⟩
def QX:bn:=cv [] [(0,agk.go Q1 1)] 1
theorem agR:cd bk (QX).Γ:=bY ai
theorem ax7:cR QX Tryz.f264 0 0:=cX (ay:=agk) (b:=B2) (m:=[]) agR ai
theorem ayo:bc agL:=cB (F:=QX) (fn:=Tryz.f264) (m:=dw Tryz.f264 [0]) agR Tryz.func264 ⟨ax7,ai⟩
end D
open Go Go.X Go.Proofs D
namespace D
def aeE:bO:=ec ⟨Aj,cF⟩ 2 ⟨Aj,cF⟩
def aeF:bO:=ec ⟨[(0,.own ac 0),(1,aL),(2,aL),(3,.fn 236 [] []),(9,aL),(10,aL),(11,aL)],cF⟩ 4 ⟨Aj,cF⟩
def aeG:bO:=ec ⟨[(0,.own ac 0),(1,aL),(2,aL),(3,.fn 236 [] []),(9,aL),(10,aL),(12,aL)],cF⟩ 6 ⟨Aj,cF⟩
def aeD:bO:=⟨⟨Aj,cF⟩,.ret,⟨[(8,dA)],cF⟩,(.exit 0),⟨[],cF⟩⟩
def afZ:aZ:=⟨265,⟨wS,cF⟩,⟨[(0,dA)],cF⟩,BU⟩
def x0:bn:=cv [tj] [(2,aeE.go HH 1),(4,aeF.go HI 1),(6,aeG.go HJ 1),(0,aeD.go Qj 1)] 1
theorem BT:cd bk (x0).Γ:=bY ⟨vY,ai⟩
theorem aeH:cR x0 Tryz.f265 2 1:=cX (ay:=aeE) (b:=B0) (m:=[]) BT ai
theorem aeI:cR x0 Tryz.f265 4 2:=cX (ay:=aeF) (b:=BR) (m:=[]) BT ai
theorem aeJ:cR x0 Tryz.f265 6 3:=cX (ay:=aeG) (b:=BS) (m:=[]) BT ai
theorem aw5:cR x0 Tryz.f265 0 0:=cX (ay:=aeD) (b:=BZ) (m:=[(2,hp (b7 Tryz.f265) 1),(4,hp (b7 Tryz.f265) 2),(6,hp (b7 Tryz.f265) 3)]) BT ⟨aeH,aeI,aeJ,ai⟩
theorem axj:bc afZ:=cB (F:=x0) (fn:=Tryz.f265) (m:=dw Tryz.f265 [0,2,4,6]) BT Tryz.func265 ⟨aw5,aeH,aeI,aeJ,ai⟩
def agy:bO:=ec ⟨Ae,cF⟩ 2 ⟨Ae,cF⟩
def agz:bO:=ec ⟨Ae,cF⟩ 4 ⟨Ae,cF⟩
def agx:bO:=ec ⟨Ae,cF⟩ 0 ⟨[(11,aL)],cF⟩
def agf:aZ:=⟨266,⟨Fa,cF⟩,⟨[(0,aL)],cF⟩,B4⟩
def BW:bn:=cv [tj] [(2,agy.go Qs 1),(4,agz.go Qt 1),(0,agx.go H0 1)] 1
theorem dl:cd bk (BW).Γ:=bY ⟨vY,ai⟩
theorem af4:cR BW Tryz.f266 2 1:=cX (ay:=agy) (b:=HY) (m:=[]) dl ai
theorem af5:cR BW Tryz.f266 4 2:=cX (ay:=agz) (b:=HZ) (m:=[]) dl ai
theorem axz:cR BW Tryz.f266 0 0:=cX (ay:=agx) (b:=HX) (m:=[(2,hp (b7 Tryz.f266) 1),(4,hp (b7 Tryz.f266) 2)]) dl ⟨af4,af5,ai⟩
theorem axL:bc agf:=cB (F:=BW) (fn:=Tryz.f266) (m:=dw Tryz.f266 [0,2,4]) dl Tryz.func266 ⟨axz,af4,af5,ai⟩
def ahk:bO:=ec ⟨qE,cF⟩ 0 ⟨qE,cF⟩
def li:bO:=ec ⟨qE,cF⟩ 2 ⟨qE,cF⟩
def ahn:bO:=ec ⟨qE,cF⟩ 6 ⟨qE,cF⟩
def aho:bO:=ec ⟨qE,cF⟩ 8 ⟨qE,cF⟩
def ahl:bO:=ec ⟨qE,cF⟩ 4 ⟨[(0,.own ac 0),(1,aL),(13,aL)],cF⟩
def md:aZ:=⟨267,⟨Fa,cF⟩,⟨[(0,aL),(1,dA)],cF⟩,Ci⟩
def vc:bn:=cv [tj] [(0,ahk.go St 1),(2,li.go Su 1),(6,ahn.go Sv 1),(8,aho.go Sw 1),(4,ahl.go Io 1)] 1
theorem xZ:cd bk (vc).Γ:=bY ⟨vY,ai⟩
theorem ayz:cR vc Tryz.f267 0 0:=cX (ay:=ahk) (b:=Ii) (m:=[]) xZ ai
theorem ayA:cR vc Tryz.f267 2 1:=cX (ay:=li) (b:=Ij) (m:=[]) xZ ai
theorem ahh:cR vc Tryz.f267 6 3:=cX (ay:=ahn) (b:=Il) (m:=[]) xZ ai
theorem ahi:cR vc Tryz.f267 8 4:=cX (ay:=aho) (b:=Im) (m:=[]) xZ ai
theorem ayB:cR vc Tryz.f267 4 2:=cX (ay:=ahl) (b:=Ik) (m:=[(6,hp (b7 Tryz.f267) 3),(8,hp (b7 Tryz.f267) 4)]) xZ ⟨ahh,ahi,ai⟩
theorem ayZ:bc md:=cB (F:=vc) (fn:=Tryz.f267) (m:=dw Tryz.f267 [0,2,4,6,8]) xZ Tryz.func267 ⟨ayz,ayA,ayB,ahh,ahi,ai⟩
def ah0:aZ:=⟨284,iB,Lj,Jf⟩
theorem amh:bc ah0:=cg (l:=[TE]) Tryz.func284 ⟨WJ,ai⟩
def ah9:aZ:=⟨285,⟨[(0,.ptr 0 (.int .u64) 0 [])],[.box 315 (.int .u64) (.dat (.int .u64))]⟩,⟨[(0,.dat (.int .u64))],[.box 315 (.int .u64) (.dat (.int .u64))]⟩,Ta⟩
def ame:bn:=cv [] [] 1
theorem amo:bc ah9:=cB (F:=ame) (fn:=Tryz.f285) (m:=[]) (bY ai) Tryz.func285 ai
def agA:bO:=ec ⟨[(0,.own ac 0),(1,aL),(8,aL),(9,.ptr 1 (.int .u64) 0 []),(10,.dat (.int .u64)),(11,aL)],[.arr 39 ac false,.box 315 (.int .u64) (.dat (.int .u64))]⟩ 0 ⟨[],cF⟩
def ag0:aZ:=⟨262,⟨wS,cF⟩,⟨[],cF⟩,HQ⟩
def Qu:bn:=cv [ah0,ah9] [(0,agA.go Qv 1)] 1
theorem agG:cd bk (Qu).Γ:=bY ⟨amh,amo,ai⟩
theorem axI:cR Qu Tryz.f262 0 0:=cX (ay:=agA) (b:=co) (m:=[]) agG ai
theorem rg:bc ag0:=cB (F:=Qu) (fn:=Tryz.f262) (m:=dw Tryz.f262 [0]) agG Tryz.func262 ⟨axI,ai⟩
def se:bO:=⟨⟨[(0,.own ac 0),(1,aL),(2,aL),(3,aL),(4,.fn 236 [] []),(10,dA),(11,dA),(12,aL),(13,aL),(75,dA)],cF⟩,.nrm,⟨Uw,cF⟩,.ret,⟨[],cF⟩⟩
def sf:bO:=⟨⟨[(0,.own ac 0),(1,aL),(2,aL),(3,aL),(4,.fn 236 [] []),(10,dA),(11,dA),(12,aL),(13,aL),(97,dA)],cF⟩,.nrm,⟨UE,cF⟩,(.exit 1),⟨Ai,cF⟩⟩
def sB:bO:=⟨⟨UE,cF⟩,.nrm,⟨Ai,cF⟩,(.exit 90000020),⟨[],[]⟩⟩
def sA:bO:=⟨⟨Uw,cF⟩,.nrm,⟨Ai,cF⟩,(.exit 1),⟨Ai,cF⟩⟩
def xX:bO:=⟨⟨Ai,cF⟩,.ret,⟨[],cF⟩,(.exit 80000000),⟨[],[]⟩⟩
def Sp:aZ:=⟨251,x5,x6,SG⟩
def k2 (cn:(Int×Int×Int×aw×H)->O (aw×H)):bn:=cv [(sC cn),tj,agC,ahs,lc,agL,afZ,agf,md,ag0] [(0,xX.go (Ie cn) 1)] 1
def oo (cn:(Int×Int×Int×aw×H)->O (aw×H)):lD:=[(100016,se.go (nu cn) 1),(100018,sf.go (pP cn) 1),(20,sB.go (qW cn) 1),(17,sA.go (ma cn) 1)]
theorem axA (cn:(Int×Int×Int×aw×H)->O (aw×H)) (d:se.S.ty.den): @Eq (O se.Out) ((gQ (k2 cn) (oo cn) (e0 (b7 Tryz.f251) 100016) 1 (se.S.enc d)).bind λ(e,st)=>se.out (k2 cn).m e st).val (nu cn d):=aD
theorem axN (cn:(Int×Int×Int×aw×H)->O (aw×H)) (d:sf.S.ty.den): @Eq (O sf.Out) ((gQ (k2 cn) (oo cn) (e0 (b7 Tryz.f251) 100018) 1 (sf.S.enc d)).bind λ(e,st)=>sf.out (k2 cn).m e st).val (pP cn d):=aD
theorem ayG (cn:(Int×Int×Int×aw×H)->O (aw×H)) (d:sB.S.ty.den): @Eq (O sB.Out) ((gQ (k2 cn) (oo cn) (e0 (b7 Tryz.f251) 20) 1 (sB.S.enc d)).bind λ(e,st)=>sB.out (k2 cn).m e st).val (qW cn d):=aD
theorem ayE (cn:(Int×Int×Int×aw×H)->O (aw×H)) (d:sA.S.ty.den): @Eq (O sA.Out) ((gQ (k2 cn) (oo cn) (e0 (b7 Tryz.f251) 17) 1 (sA.S.enc d)).bind λ(e,st)=>sA.out (k2 cn).m e st).val (ma cn d):=aD
theorem ayC (cn:(Int×Int×Int×aw×H)->O (aw×H)) (d:xX.S.ty.den): @Eq (O (xX.S.ty.den⊕xX.Out)) (xX.bodyK (k2 cn) (oo cn) (hp (b7 Tryz.f251) 0) 0 d).val (x7 cn d):=aD
theorem ay9 (cn:(Int×Int×Int×aw×H)->O (aw×H)) (d:x5.ty.den): @Eq (O x6.ty.den) (su (k2 cn) (oo cn) Tryz.f251 x5 x6 d).val (B9 cn d):=aD
theorem x1 (cn:(Int×Int×Int×aw×H)->O (aw×H)) (kT:cE bk (sC cn)):cd bk (k2 cn).Γ:=bY ⟨(kT.x aD),vY,ax6,ayS,ayg,ayo,axj,axL,ayZ,rg,ai⟩
theorem axB (cn:(Int×Int×Int×aw×H)->O (aw×H)) (kT:cE bk (sC cn)):jP bk (k2 cn) Tryz.f251.ntmps (se.go (nu cn) 1) (e0 (b7 Tryz.f251) 100016):=
  lX eB (x1 cn kT) eQ (ay:=se) (k:=1) (f:=nu cn) (C:=(oo cn)) (l:=[]) (m:=[]) aD ai aD ai aD (eU _ aD) (axA cn)
theorem axO (cn:(Int×Int×Int×aw×H)->O (aw×H)) (kT:cE bk (sC cn)):jP bk (k2 cn) Tryz.f251.ntmps (sf.go (pP cn) 1) (e0 (b7 Tryz.f251) 100018):=
  lX eB (x1 cn kT) eQ (ay:=sf) (k:=1) (f:=pP cn) (C:=(oo cn)) (l:=[]) (m:=[]) aD ai aD ai aD (eU _ aD) (axN cn)
theorem ayH (cn:(Int×Int×Int×aw×H)->O (aw×H)) (kT:cE bk (sC cn)):jP bk (k2 cn) Tryz.f251.ntmps (sB.go (qW cn) 1) (e0 (b7 Tryz.f251) 20):=
  lX eB (x1 cn kT) eQ (ay:=sB) (k:=1) (f:=qW cn) (C:=(oo cn)) (l:=[]) (m:=[]) aD ai aD ai aD (eU _ aD) (ayG cn)
theorem ayF (cn:(Int×Int×Int×aw×H)->O (aw×H)) (kT:cE bk (sC cn)):jP bk (k2 cn) Tryz.f251.ntmps (sA.go (ma cn) 1) (e0 (b7 Tryz.f251) 17):=
  lX eB (x1 cn kT) eQ (ay:=sA) (k:=1) (f:=ma cn) (C:=(oo cn)) (l:=[]) (m:=[(sf.go (pP cn) 1,e0 (b7 Tryz.f251) 100018),(sB.go (qW cn) 1,e0 (b7 Tryz.f251) 20)]) aD ai aD ⟨axO cn kT,ayH cn kT,ai⟩ aD (eU _ aD) (ayE cn)
theorem ayT (cn:(Int×Int×Int×aw×H)->O (aw×H)) (kT:cE bk (sC cn)):hq bk (k2 cn) Tryz.f251.ntmps 0 (hp (b7 Tryz.f251) 0):=
  asO eB (x1 cn kT) eQ (ay:=xX) (f:=Ie cn) (b:=x7 cn) (C:=(oo cn)) (l:=[]) (m:=[(se.go (nu cn) 1,e0 (b7 Tryz.f251) 100016),(sA.go (ma cn) 1,e0 (b7 Tryz.f251) 17)]) (λ_=>rfl) aD aD ai aD ⟨axB cn kT,ayF cn kT,ai⟩ aD (eU _ aD) (ayC cn)
theorem ayn (cn:(Int×Int×Int×aw×H)->O (aw×H)) (kT:cE bk (sC cn)):cE bk ⟨251,x5,x6,B9 cn⟩:=
  AK (C:=(oo cn)) (F:=(k2 cn)) eB (x1 cn kT) eQ (fn:=Tryz.f251) (l:=[(0,hp (b7 Tryz.f251) 0)]) (m:=[]) Tryz.func251 aD aD aD ⟨ayT cn kT,ai⟩ aD ai (eU _ aD) aD (ay9 cn)
theorem agQ: ∀n,cE bk ⟨251,x5,x6,H5 n⟩
  |0=>A9
  |n+1=>ayn _ (agQ n)
theorem aza:cE bk Sp:=agQ jl
theorem azb:bc Sp:=(aza).x aD
def ag8:aZ:=⟨235,⟨[(0,.own ac 0),(1,.fn 236 [] [])],cF⟩,⟨[],cF⟩,Ic⟩
def ayK:bn:=cv [TE,Sp] [] 1
theorem ayy:bc ag8:=cB (F:=ayK) (fn:=Tryz.f235) (m:=[]) (bY ⟨WJ,azb,ai⟩) Tryz.func235 ai
def XX:bO:=ec ⟨[(4,.own ac 0),(13,.own ac 1),(14,aL),(15,aL)],[.arr 39 ac false,.arr 39 ac false]⟩ 0 ⟨[(4,.own ac 0)],cF⟩
def KN:aZ:=⟨213,uq,⟨jT,cF⟩,wH⟩
def Nq:bn:=cv [Jj,So,agJ,ag8] [(0,XX.go Nz 0)] 0
theorem aaV:cd bk (Nq).Γ:=bY ⟨Te,ay8,ayj,ayy,ai⟩
theorem aqy:cR Nq Tryz.f213 0 0:=cX (ay:=XX) (b:=tu) (m:=[]) aaV ai
theorem NA:bc KN:=cB (F:=Nq) (fn:=Tryz.f213) (m:=dw Tryz.f213 [0]) aaV Tryz.func213 ⟨aqy,ai⟩
def XY:bO:=⟨⟨[(3,.own ac 0),(4,c6),(7,.dat (.list ac)),(8,aL),(9,aL)],cF⟩,.ret,⟨[(2,.own ac 0)],cF⟩,(.exit 0),⟨[(3,.own ac 0),(4,c6)],cF⟩⟩
def aaB:aZ:=⟨238,uq,⟨jT,cF⟩,A3⟩
def Nr:bn:=cv [] [(0,XY.go NB 0)] 0
theorem aaW:cd bk (Nr).Γ:=bY ai
theorem aqA:cR Nr Tryz.f238 0 0:=cX (ay:=XY) (b:=tv) (m:=[]) aaW ai
theorem arp:bc aaB:=cB (F:=Nr) (fn:=Tryz.f238) (m:=dw Tryz.f238 [0]) aaW Tryz.func238 ⟨aqA,ai⟩
def XF:bO:=ec ⟨[(0,.dat (.list ac)),(5,.own ac 0),(7,.ptr 1 ac 0 []),(12,.own ac 2),(13,aL),(14,aL),(18,.dat (.list ac)),(19,aL),(20,aL)],[.arr 39 ac false,.box 39 ac (.dat ac),.arr 39 ac false]⟩ 2 Uf
def XE:bO:=ec Uf 0 ⟨[(5,.own ac 0)],cF⟩
def ZP:aZ:=⟨215,⟨[(0,.dat (.list ac)),(1,.dat (.list ac))],[]⟩,⟨jT,cF⟩,Gj⟩
def Ky:bn:=cv [Eo,KN,aaB] [(2,XF.go M8 0),(0,XE.go M7 0)] 0
theorem M6:cd bk (Ky).Γ:=bY ⟨FT,NA,arp,ai⟩
theorem Yv:cR Ky Tryz.f215 2 1:=cX (ay:=XF) (b:=El) (m:=[]) M6 ai
theorem aqk:cR Ky Tryz.f215 0 0:=cX (ay:=XE) (b:=Ek) (m:=[(2,hp (b7 Tryz.f215) 1)]) M6 ⟨Yv,ai⟩
theorem aqx:bc ZP:=cB (F:=Ky) (fn:=Tryz.f215) (m:=dw Tryz.f215 [0,2]) M6 Tryz.func215 ⟨aqk,Yv,ai⟩
def Wr:aZ:=⟨214,⟨[(0,.dat (.list ac)),(1,.ptr 0 (.list ac) 0 [])],[.box 62 (.list ac) (.own ac 1),.arr 39 ac false]⟩,⟨[(0,.own ac 2)],[.box 62 (.list ac) (.own ac 1),.arr 39 ac true,.arr 39 ac false]⟩,zr⟩
def anM:bn:=cv [ZP] [] 2
theorem an4:bc Wr:=cB (F:=anM) (fn:=Tryz.f214) (m:=[]) (bY ⟨aqx,ai⟩) Tryz.func214 ai
def Yo:aZ:=⟨218,⟨[(0,.dat ac),(1,c6),(2,c6)],[]⟩,og,ER⟩
theorem apS:bc Yo:=cg (l:=[ii,Kv]) Tryz.func218 ⟨rB,M9,ai⟩
def aio:bO:=ec ⟨[(5,.ptr 1 (.list ac) 0 []),(7,.ptr 3 am 0 []),(9,.ptr 4 ac 0 []),(11,.own ac 5),(60,.own ac 2),(61,aL),(62,aL)],[.loop 1016800 Fl,.box 62 (.list ac) (.own ac 2),.arr 39 ac true,.box 41 am (.dat am),.box 39 ac (.dat ac),.arr 39 ac false]⟩ 3 ⟨[(5,.ptr 1 (.list ac) 0 []),(11,.own ac 3)],[.loop 1016800 Fl,.box 62 (.list ac) (.own ac 2),.arr 39 ac true,.arr 39 ac false]⟩
def S3:Shape:=⟨[(0,.yld 1016800 0),(1,aL),(2,.dat am)],[.loop 1016800 Fl,.box 62 (.list ac) (.own ac 2),.arr 39 ac false]⟩
def S4:Shape:=⟨[(0,dA)],[.loop 1016800 Fl,.box 62 (.list ac) (.own ac 3),.gone,.arr 39 ac false]⟩
def aiu:aZ:=⟨1016800,S3,S4,pY⟩
def Je:bn:=cv [rD,Eo,ET,ii,KN,Wr,Yo] [(3,aio.go SZ 3)] 3
theorem amO (d:S3.ty.den): @Eq (O S4.ty.den) (sv Je gf 1016800 (ko Tryz.f168 0) S3 S4 d).val (pY d):=aD
theorem aiz:cd bk (Je).Γ:=bY ⟨tq,FT,F9,rB,NA,an4,apS,ai⟩
theorem amu:hq bk Je Tryz.f168.ntmps 3 (hp (VF Tryz.f168 0) 0):=cX (ay:=aio) (b:=yG) (m:=[]) aiz ai
theorem amP:bc aiu:=
  Gh (F:=Je) (c:=ko Tryz.f168 0) eB aiz eQ aD aD aD (m:=[(3,hp (VF Tryz.f168 0) 0)]) aD ⟨amu,ai⟩ aD amO
def agq:bO:=⟨⟨[(0,.yld 1016800 0),(1,.ptr 1 (.list am) 0 []),(3,aL)],Ff⟩,.ret,⟨[],Ff⟩,(.exit 0),⟨[],Ff⟩⟩
def af6:aZ:=⟨209,⟨[(0,.yld 1016800 0),(1,.ptr 1 (.list am) 0 [])],[.loop 1016800 [(5,.ptr 2 (.list ac) 0 [])],.box 83 (.list am) (.dat (.list am)),.box 62 (.list ac) (.own ac 3),.arr 39 ac false]⟩,⟨[],Ff⟩,QR⟩
def QB:bn:=cv [aiu] [(0,agq.go QI 4)] 4
theorem agl:cd bk (QB).Γ:=bY ⟨amP,ai⟩
theorem axs:cR QB Tryz.f209 0 0:=cX (ay:=agq) (b:=BX) (m:=[]) agl ai
theorem axR:bc af6:=cB (F:=QB) (fn:=Tryz.f209) (m:=dw Tryz.f209 [0]) agl Tryz.func209 ⟨axs,ai⟩
def L6:Shape:=⟨[(0,.dat ac),(1,.dat (.list am))],[]⟩
def L7:Shape:=⟨jT,cF⟩
def LP:aZ:=⟨168,L6,L7,EP⟩
def Yp:bn:={cx:=hy,Γ:=hQ [i6,KN,af6],Λ:=λk st=>.fail,keep:=λ_=>none,m:=0,rfs:=λk=>bif Nat.beq k 3 then some 1016800 else none,its:=[209]}
theorem apO (d:L6.ty.den): @Eq (O L7.ty.den) (me Yp Tryz.f168 L6 L7 d).val (EP d):=aD
theorem apP:cE bk LP:=
  rQ (F:=Yp) eB (bY ⟨ahw,NA,axR,ai⟩) eQ (fn:=Tryz.f168) (m:=[]) Tryz.func168 aD aD aD ai (Bw (m:=[(3,ko Tryz.f168 0)]) (its:=[209]) aD ⟨BF (Y:=1016800) aD aD,ai⟩ aD ⟨⟨_,Tryz.func209,aD,aD⟩,ai⟩) aD apO
theorem apQ:bc LP:=(apP).x aD
def aib:aZ:=⟨169,⟨[(0,.dat ac),(1,.ptr 0 ac 0 [])],j2⟩,⟨[(0,dA)],j2⟩,S9⟩
def amf:bn:=cv [rD,Eo] [] 1
theorem amq:bc aib:=cB (F:=amf) (fn:=Tryz.f169) (m:=[]) (bY ⟨tq,FT,ai⟩) Tryz.func169 ai
end D
open Go Go.X Go.Proofs D
namespace D
def aaH:bO:=ec ⟨[(0,.dat (.list bz)),(7,.dat (.list am)),(8,aL),(9,aL)],[]⟩ 0 uo
def Gb:aZ:=⟨43,⟨[(0,.dat (.list bz)),(1,.dat (.list am))],[]⟩,uo,uQ⟩
def OC:bn:=cv [Nc] [(0,aaH.go Om 0)] 0
theorem abZ:cd bk (OC).Γ:=bY ⟨aao,ai⟩
theorem asb:cR OC Tryz.f43 0 0:=cX (ay:=aaH) (b:=AP) (m:=[]) abZ ai
theorem On:bc Gb:=cB (F:=OC) (fn:=Tryz.f43) (m:=dw Tryz.f43 [0]) abZ Tryz.func43 ⟨asb,ai⟩
def VH:aZ:=⟨173,⟨[(0,.dat ac),(1,.ptr 0 bz 0 [])],qC⟩,⟨[(0,dA)],qC⟩,T8⟩
def anr:bn:=cv [wz] [] 1
theorem anp:bc VH:=cB (F:=anr) (fn:=Tryz.f173) (m:=[]) (bY ⟨zJ,ai⟩) Tryz.func173 ai
def agt:bO:=⟨⟨[(0,.dat (.list ac)),(1,.fn 173 [] [(.ptr 0 bz 0 [])]),(7,aL),(8,aL)],qC⟩,.ret,⟨[(4,aL)],qC⟩,(.exit 0),⟨[],qC⟩⟩
def aga:aZ:=⟨116,⟨[(0,.dat (.list ac)),(1,.fn 173 [] [(.ptr 0 bz 0 [])])],qC⟩,⟨[(0,aL)],qC⟩,HN⟩
def QE:bn:=cv [VH] [(0,agt.go QK 1)] 1
theorem ago:cd bk (QE).Γ:=bY ⟨anp,ai⟩
theorem axv:cR QE Tryz.f116 0 0:=cX (ay:=agt) (b:=Ce) (m:=[]) ago ai
theorem axV:bc aga:=cB (F:=QE) (fn:=Tryz.f116) (m:=dw Tryz.f116 [0]) ago Tryz.func116 ⟨axv,ai⟩
def afV:aZ:=⟨71,⟨[(0,.dat (.list ac)),(1,.fn 173 [] [(.ptr 0 bz 0 [])])],qC⟩,⟨[(0,dA)],qC⟩,Cc⟩
def axa:bn:=cv [aga] [] 1
theorem axe:bc afV:=cB (F:=axa) (fn:=Tryz.f71) (m:=[]) (bY ⟨axV,ai⟩) Tryz.func71 ai
def TG:aZ:=⟨172,⟨[(0,.dat bz),(1,.ptr 0 (.list ac) 0 [])],[.box 62 (.list ac) (.dat (.list ac))]⟩,⟨[(0,dA)],[.box 62 (.list ac) (.dat (.list ac))]⟩,En⟩
def anS:bn:=cv [afV] [] 1
theorem WO:bc TG:=cB (F:=anS) (fn:=Tryz.f172) (m:=[]) (bY ⟨axe,ai⟩) Tryz.func172 ai
def agE:bO:=⟨⟨[(0,.own bz 0),(1,.fn 172 [] [(.ptr 1 (.list ac) 0 [])]),(7,aL),(8,aL)],r8⟩,.ret,⟨[(4,aL)],r8⟩,(.exit 0),⟨[],r8⟩⟩
def agT:aZ:=⟨219,⟨[(0,.own bz 0),(1,.fn 172 [] [(.ptr 1 (.list ac) 0 [])])],r8⟩,⟨[(0,aL)],r8⟩,x3⟩
def Q5:bn:=cv [TG] [(0,agE.go QS 2)] 2
theorem ag5:cd bk (Q5).Γ:=bY ⟨WO,ai⟩
theorem ayl:cR Q5 Tryz.f219 0 0:=cX (ay:=agE) (b:=B3) (m:=[]) ag5 ai
theorem aye:bc agT:=cB (F:=Q5) (fn:=Tryz.f219) (m:=dw Tryz.f219 [0]) ag5 Tryz.func219 ⟨ayl,ai⟩
def agh:bO:=ec ⟨[(0,.own bz 0),(1,.fn 172 [] [(.ptr 1 (.list ac) 0 [])]),(5,aL),(6,aL)],r8⟩ 0 ⟨[(0,.own bz 0),(5,aL)],r8⟩
def agI:aZ:=⟨170,⟨[(0,.own bz 0),(1,.fn 172 [] [(.ptr 1 (.list ac) 0 [])])],r8⟩,⟨[(0,.own bz 2)],[.gone,.box 62 (.list ac) (.dat (.list ac)),.arr 58 bz false]⟩,B7⟩
def Qy:bn:=cv [TG,agT] [(0,agh.go QY 2)] 2
theorem agN:cd bk (Qy).Γ:=bY ⟨WO,aye,ai⟩
theorem axM:cR Qy Tryz.f170 0 0:=cX (ay:=agh) (b:=xS) (m:=[]) agN ai
theorem ayi:bc agI:=cB (F:=Qy) (fn:=Tryz.f170) (m:=dw Tryz.f170 [0]) agN Tryz.func170 ⟨axM,ai⟩
def LU:aZ:=⟨137,⟨[(0,.dat (.list bz)),(1,.dat (.list ac))],[]⟩,kA,zC⟩
theorem YF:bc LU:=cg (l:=[x4,agI]) Tryz.func137 ⟨Ib,ayi,ai⟩
def Sx:Shape:=⟨[(0,.yld 1013600 0),(1,.dat bz)],[.loop 1013600 [(12,.ptr 1 (.list bz) 0 [])],.box 64 (.list bz) (.own bz 2),.arr 58 bz false]⟩
def Sy:Shape:=⟨[(0,dA)],[.loop 1013600 [(12,.ptr 1 (.list bz) 0 [])],.box 64 (.list bz) (.own bz 3),.gone,.arr 58 bz false]⟩
def ahK:aZ:=⟨1013600,Sx,Sy,i5⟩
def ahL:bn:=cv [] [] 3
theorem azq (d:Sx.ty.den): @Eq (O Sy.ty.den) (sv ahL gf 1013600 (ko Tryz.f136 0) Sx Sy d).val (i5 d):=aD
theorem azr:bc ahK:=
  Gh (F:=ahL) (c:=ko Tryz.f136 0) eB (bY ai) eQ aD aD aD (m:=[]) aD ai aD azq
def agu:bO:=⟨⟨[(0,.own ac 0),(1,.fn 169 [] [(.ptr 1 ac 0 [])]),(7,aL),(8,aL)],um⟩,.ret,⟨[(4,aL)],um⟩,(.exit 0),⟨[],um⟩⟩
def agb:aZ:=⟨116,⟨[(0,.own ac 0),(1,.fn 169 [] [(.ptr 1 ac 0 [])])],um⟩,⟨[(0,aL)],um⟩,HO⟩
def QF:bn:=cv [aib] [(0,agu.go QL 2)] 2
theorem agp:cd bk (QF).Γ:=bY ⟨amq,ai⟩
theorem axw:cR QF Tryz.f116 0 0:=cX (ay:=agu) (b:=ci) (m:=[]) agp ai
theorem axW:bc agb:=cB (F:=QF) (fn:=Tryz.f116) (m:=dw Tryz.f116 [0]) agp Tryz.func116 ⟨axw,ai⟩
def afW:aZ:=⟨71,⟨[(0,.own ac 0),(1,.fn 169 [] [(.ptr 1 ac 0 [])])],um⟩,⟨[(0,dA)],um⟩,ce⟩
def axb:bn:=cv [agb] [] 2
theorem axf:bc afW:=cB (F:=axb) (fn:=Tryz.f71) (m:=[]) (bY ⟨axW,ai⟩) Tryz.func71 ai
def yb:bO:=⟨⟨[(0,.yld 1013600 0),(1,.ptr 1 .opq 0 []),(41,.own bz 8),(42,aL),(43,aL)],[.loop 1013600 [(12,.ptr 5 (.list bz) 0 [])],.box 141 .opq (.ptr 6 fO 0 []),.box 3 (.int .i64) aL,.box 39 ac (.dat ac),.box 62 (.list ac) (.dat (.list ac)),.box 64 (.list bz) (.own bz 9),.box 143 fO mN,.gone,.arr 58 bz false,.arr 58 bz false]⟩,.ret,K5,(.exit 0),K5⟩
def SK:Shape:=⟨[(0,.yld 1013600 0),(1,.ptr 1 .opq 0 []),(2,.ptr 2 (.int .i64) 0 []),(3,.ptr 3 ac 0 []),(4,.ptr 4 (.list ac) 0 [])],[.loop 1013600 [(12,.ptr 5 (.list bz) 0 [])],.box 141 .opq (.ptr 6 fO 0 []),.box 3 (.int .i64) aL,.box 39 ac (.dat ac),.box 62 (.list ac) (.dat (.list ac)),.box 64 (.list bz) (.own bz 7),.box 143 fO mN,.arr 58 bz false]⟩
def SL:Shape:=K5
def SJ (cZ:(cz×aK×aw×bF×Int×H)->O (ak×bF×Int×H)):aZ:=⟨135,SK,SL,sJ cZ⟩
def gc (cZ:(cz×aK×aw×bF×Int×H)->O (ak×bF×Int×H)):bn:=cv [tx,tr,(pX cZ),Gb,LU,ahK] [(0,yb.go (x9 cZ) 8)] 8
theorem azu (cZ:(cz×aK×aw×bF×Int×H)->O (ak×bF×Int×H)) (d:yb.S.ty.den): @Eq (O (yb.S.ty.den⊕yb.Out)) (yb.body (gc cZ) (hp (b7 Tryz.f135) 0) 0 d).val (sG cZ d):=aD
theorem al8 (cZ:(cz×aK×aw×bF×Int×H)->O (ak×bF×Int×H)) (d:SK.ty.den): @Eq (O SL.ty.den) (me (gc cZ) Tryz.f135 SK SL d).val (sJ cZ d):=aD
theorem ahY (cZ:(cz×aK×aw×bF×Int×H)->O (ak×bF×Int×H)) (ky:cE bk (pX cZ)):cd bk (gc cZ).Γ:=bY ⟨zG,zz,(ky.x aD),On,YF,azr,ai⟩
theorem al6 (cZ:(cz×aK×aw×bF×Int×H)->O (ak×bF×Int×H)) (ky:cE bk (pX cZ)):hq bk (gc cZ) Tryz.f135.ntmps 0 (hp (b7 Tryz.f135) 0):=
  rR eB (ahY cZ ky) eQ (ay:=yb) (f:=x9 cZ) (b:=sG cZ) (m:=[]) (λ_=>rfl) aD aD ai aD (eU _ aD) (azu cZ)
theorem al9 (cZ:(cz×aK×aw×bF×Int×H)->O (ak×bF×Int×H)) (ky:cE bk (pX cZ)):cE bk (SJ cZ):=
  rQ (F:=(gc cZ)) eB (ahY cZ ky) eQ (fn:=Tryz.f135) (m:=dw Tryz.f135 [0]) Tryz.func135 aD aD aD ⟨al6 cZ ky,ai⟩ (eU _ aD) aD (al8 cZ)
theorem ama (cZ:(cz×aK×aw×bF×Int×H)->O (ak×bF×Int×H)) (ky:cE bk (pX cZ)):qT bk (SJ cZ):=(al9 cZ ky).x aD
def yc:bO:=ec ⟨[(0,.ptr 0 fO 0 []),(5,.ptr 1 ey 0 []),(6,.ptr 2 ac 0 []),(8,.dat (.list bz)),(9,.own ac 3),(16,.dat (.list ac)),(17,aL),(18,aL)],UC⟩ 0 ⟨[(0,.ptr 0 fO 0 []),(5,.ptr 1 ey 0 []),(6,.ptr 2 ac 0 []),(8,.dat (.list bz)),(9,.own ac 3)],UC⟩
def yd:bO:=⟨⟨[(0,.ptr 0 fO 0 []),(5,.ptr 1 ey 0 []),(8,.dat (.list bz)),(9,.own ac 2),(12,.ptr 3 (.list bz) 0 []),(31,.own ac 4),(32,aL),(33,aL)],[.box 143 fO mN,.box 85 ey (.dat ey),.arr 39 ac true,.box 64 (.list bz) (.own bz 5),.arr 39 ac false,.arr 58 bz false]⟩,.ret,⟨[(8,.dat (.list bz))],[.box 143 fO mN]⟩,(.exit 2),⟨[(12,.ptr 1 (.list bz) 0 [])],[.box 143 fO mN,.box 64 (.list bz) (.own bz 2),.arr 58 bz false]⟩⟩
def S1:aZ:=⟨136,yh,yi,Jq⟩
def vj (cZ:(cz×aK×aw×bF×Int×H)->O (ak×bF×Int×H)):bn:={cx:=hy,Γ:=hQ [Mt,S2,(pX cZ),LP,afW,(SJ cZ)],Λ:=λk st=>bif Nat.beq k 0 then yc.go (Jg cZ) 1 st else bif Nat.beq k 2 then yd.go (Jh cZ) 1 st else .fail,keep:=λ_=>none,m:=1,rfs:=λk=>bif Nat.beq k 13 then some 1013600 else none,its:=[135]}
theorem amk (cZ:(cz×aK×aw×bF×Int×H)->O (ak×bF×Int×H)) (d:yc.S.ty.den): @Eq (O (yc.S.ty.den⊕yc.Out)) (yc.body (vj cZ) (hp (b7 Tryz.f136) 0) 0 d).val (yH cZ d):=aD
theorem aml (cZ:(cz×aK×aw×bF×Int×H)->O (ak×bF×Int×H)) (d:yd.S.ty.den): @Eq (O (yd.S.ty.den⊕yd.Out)) (yd.body (vj cZ) (hp (b7 Tryz.f136) 1) 2 d).val (vi cZ d):=aD
theorem amQ (cZ:(cz×aK×aw×bF×Int×H)->O (ak×bF×Int×H)) (d:yh.ty.den): @Eq (O yi.ty.den) (me (vj cZ) Tryz.f136 yh yi d).val (Di cZ d):=aD
theorem S0 (cZ:(cz×aK×aw×bF×Int×H)->O (ak×bF×Int×H)) (ky:cE bk (pX cZ)):cd bk (vj cZ).Γ:=bY ⟨Z6,aiA,(ky.x aD),apQ,axf,(ama cZ ky),ai⟩
theorem amx (cZ:(cz×aK×aw×bF×Int×H)->O (ak×bF×Int×H)) (ky:cE bk (pX cZ)):hq bk (vj cZ) Tryz.f136.ntmps 0 (hp (b7 Tryz.f136) 0):=
  rR eB (S0 cZ ky) eQ (ay:=yc) (f:=Jg cZ) (b:=yH cZ) (m:=[]) (λ_=>rfl) aD aD ai aD (eU _ aD) (amk cZ)
theorem amy (cZ:(cz×aK×aw×bF×Int×H)->O (ak×bF×Int×H)) (ky:cE bk (pX cZ)):hq bk (vj cZ) Tryz.f136.ntmps 2 (hp (b7 Tryz.f136) 1):=
  rR eB (S0 cZ ky) eQ (ay:=yd) (f:=Jh cZ) (b:=vi cZ) (m:=[]) (λ_=>rfl) aD aD ai aD (Bw (m:=[(13,ko Tryz.f136 0)]) (its:=[135]) aD ⟨BF (Y:=1013600) aD aD,ai⟩ aD ⟨⟨_,Tryz.func135,aD,aD⟩,ai⟩) (aml cZ)
theorem al7 (cZ:(cz×aK×aw×bF×Int×H)->O (ak×bF×Int×H)) (ky:cE bk (pX cZ)):cE bk ⟨136,yh,yi,Di cZ⟩:=
  rQ (F:=(vj cZ)) eB (S0 cZ ky) eQ (fn:=Tryz.f136) (m:=dw Tryz.f136 [0,2]) Tryz.func136 aD aD aD ⟨amx cZ ky,amy cZ ky,ai⟩ (Bw (m:=[(13,ko Tryz.f136 0)]) (its:=[135]) aD ⟨BF (Y:=1013600) aD aD,ai⟩ aD ⟨⟨_,Tryz.func135,aD,aD⟩,ai⟩) aD (amQ cZ)
theorem ahX: ∀n,cE bk ⟨136,yh,yi,qX n⟩
  |0=>A9
  |n+1=>al7 _ (ahX n)
theorem amR:cE bk S1:=ahX jl
theorem amT:bc S1:=(amR).x aD
def SV:Shape:=⟨[(0,.yld 1002700 0),(1,.dat bz)],[.loop 1002700 [(7,.ptr 1 (.list bz) 0 [])],.box 64 (.list bz) (.own bz 2),.arr 58 bz false]⟩
def SW:Shape:=⟨[(0,dA)],[.loop 1002700 [(7,.ptr 1 (.list bz) 0 [])],.box 64 (.list bz) (.own bz 3),.gone,.arr 58 bz false]⟩
def aii:aZ:=⟨1002700,SV,SW,Jk⟩
def aij:bn:=cv [] [] 3
theorem amv (d:SV.ty.den): @Eq (O SW.ty.den) (sv aij gf 1002700 (ko Tryz.f27 0) SV SW d).val (Jk d):=aD
theorem amw:bc aii:=
  Gh (F:=aij) (c:=ko Tryz.f27 0) eB (bY ai) eQ aD aD aD (m:=[]) aD ai aD amv
def ah5:bO:=⟨⟨[(0,.yld 1002700 0),(1,.ptr 1 .opq 0 []),(41,.own bz 7),(42,aL),(43,aL)],[.loop 1002700 [(7,.ptr 5 (.list bz) 0 [])],.box 141 .opq (.ptr 6 fO 0 []),.box 3 (.int .i64) aL,.box 39 ac (.dat ac),.box 62 (.list ac) (.dat (.list ac)),.box 64 (.list bz) (.own bz 8),.box 143 fO mN,.arr 58 bz false,.arr 58 bz false]⟩,.ret,K6,(.exit 0),K6⟩
def aim:aZ:=⟨135,⟨[(0,.yld 1002700 0),(1,.ptr 1 .opq 0 []),(2,.ptr 2 (.int .i64) 0 []),(3,.ptr 3 ac 0 []),(4,.ptr 4 (.list ac) 0 [])],[.loop 1002700 [(7,.ptr 5 (.list bz) 0 [])],.box 141 .opq (.ptr 6 fO 0 []),.box 3 (.int .i64) aL,.box 39 ac (.dat ac),.box 62 (.list ac) (.dat (.list ac)),.box 64 (.list bz) (.nils 58 bz),.box 143 fO mN]⟩,K6,vl⟩
def SU:bn:=cv [tx,tr,Gb,LU,S1,aii] [(0,ah5.go ye 7)] 7
theorem aif:cd bk (SU).Γ:=bY ⟨zG,zz,On,YF,amT,amw,ai⟩
theorem amm:cR SU Tryz.f135 0 0:=cX (ay:=ah5) (b:=vf) (m:=[]) aif ai
theorem amn:bc aim:=cB (F:=SU) (fn:=Tryz.f135) (m:=dw Tryz.f135 [0]) aif Tryz.func135 ⟨amm,ai⟩
def wj:Shape:=⟨[(0,.dat jn),(1,.dat ac)],[]⟩
def we:Shape:=⟨[(0,.own bz 0),(1,aL)],oh⟩
def Nk:aZ:=⟨27,wj,we,kQ⟩
def aaF:bn:={cx:=hy,Γ:=hQ [S2,aim],Λ:=λk st=>.fail,keep:=λ_=>none,m:=0,rfs:=λk=>bif Nat.beq k 4 then some 1002700 else none,its:=[135]}
theorem arz (d:wj.ty.den): @Eq (O we.ty.den) (me aaF Tryz.f27 wj we d).val (kQ d):=aD
theorem aaO:cE bk Nk:=
  rQ (F:=aaF) eB (bY ⟨aiA,amn,ai⟩) eQ (fn:=Tryz.f27) (m:=[]) Tryz.func27 aD aD aD ai (Bw (m:=[(4,ko Tryz.f27 0)]) (its:=[135]) aD ⟨BF (Y:=1002700) aD aD,ai⟩ aD ⟨⟨_,Tryz.func135,aD,aD⟩,ai⟩) aD arz
theorem arA:bc Nk:=(aaO).x aD
def XA:bO:=⟨⟨[(0,.dat (.list bz)),(1,.dat (.list bz)),(5,aL)],[]⟩,.ret,uw,(.exit 0),⟨[],[]⟩⟩
def D4:Shape:=UH
def D8:Shape:=ew
def Mz:aZ:=⟨29,D4,D8,zL⟩
def MM:bn:=cv [] [(0,XA.go M0 0)] 0
theorem Zr:cd bk (MM).Γ:=bY ai
theorem apy:cR MM Tryz.f29 0 0:=cX (ay:=XA) (b:=Eh) (m:=[]) Zr ai
theorem Zs:cE bk Mz:=pI (F:=MM) (fn:=Tryz.f29) (m:=dw Tryz.f29 [0]) Zr Tryz.func29 ⟨apy,ai⟩
theorem aq0:bc Mz:=Zs.x aD
def zj:Shape:=⟨[(0,.dat dm),(1,aL),(2,.dat ac),(3,aL)],[]⟩
def zc:Shape:=iB
def JV (fU:(bF×Int×aK×Int×H)->O (Int×H)):aZ:=⟨91,zj,zc,fU⟩
def VI:bO:=⟨⟨[(9,.own ja 0),(10,aL),(11,aL)],[.arr 93 ja false]⟩,.ret,r5,(.exit 0),⟨[],[]⟩⟩
def Wl:aZ:=⟨182,wR,ew,KG⟩
def TH:bn:=cv [] [(0,VI.go TA 0)] 0
theorem WW:cd bk (TH).Γ:=bY ai
theorem anB:cR TH Tryz.f182 0 0:=cX (ay:=VI) (b:=Dx) (m:=[]) WW ai
theorem aob:bc Wl:=cB (F:=TH) (fn:=Tryz.f182) (m:=dw Tryz.f182 [0]) WW Tryz.func182 ⟨anB,ai⟩
def WH:bO:=⟨⟨[(0,.dat (.list bz)),(3,aL)],[]⟩,.ret,r5,(.exit 0),⟨[],[]⟩⟩
def Yn:aZ:=⟨180,uo,ew,F3⟩
def L4:bn:=cv [] [(0,WH.go Mm 0)] 0
theorem Yz:cd bk (L4).Γ:=bY ai
theorem aoR:cR L4 Tryz.f180 0 0:=cX (ay:=WH) (b:=D2) (m:=[]) Yz ai
theorem apN:bc Yn:=cB (F:=L4) (fn:=Tryz.f180) (m:=dw Tryz.f180 [0]) Yz Tryz.func180 ⟨aoR,ai⟩
def WN:aZ:=⟨179,Fo,ew,KF⟩
theorem aoa:bc WN:=cg (l:=[]) Tryz.func179 ai
def W3:aZ:=⟨178,⟨[(0,.dat bz),(1,.ptr 0 ac 0 [])],j2⟩,⟨[(0,dA)],j2⟩,KU⟩
def aoV:bn:=cv [wz,WN] [] 1
theorem aop:bc W3:=cB (F:=aoV) (fn:=Tryz.f178) (m:=[]) (bY ⟨zJ,aoa,ai⟩) Tryz.func178 ai
end D
open Go Go.X Go.Proofs D
namespace D
def agr:bO:=⟨⟨[(0,.dat (.list bz)),(1,.fn 178 [] [(.ptr 0 ac 0 [])]),(7,aL),(8,aL)],j2⟩,.ret,⟨[(4,aL)],j2⟩,(.exit 0),⟨[],j2⟩⟩
def af8:aZ:=⟨219,⟨[(0,.dat (.list bz)),(1,.fn 178 [] [(.ptr 0 ac 0 [])])],j2⟩,⟨[(0,aL)],j2⟩,HL⟩
def QC:bn:=cv [W3] [(0,agr.go HW 1)] 1
theorem agm:cd bk (QC).Γ:=bY ⟨aop,ai⟩
theorem axt:cR QC Tryz.f219 0 0:=cX (ay:=agr) (b:=sg) (m:=[]) agm ai
theorem axT:bc af8:=cB (F:=QC) (fn:=Tryz.f219) (m:=dw Tryz.f219 [0]) agm Tryz.func219 ⟨axt,ai⟩
def af7:aZ:=⟨181,⟨[(0,.dat (.list bz)),(1,.fn 178 [] [(.ptr 0 ac 0 [])])],j2⟩,⟨[(0,dA)],j2⟩,HK⟩
def axP:bn:=cv [af8] [] 1
theorem axS:bc af7:=cB (F:=axP) (fn:=Tryz.f181) (m:=[]) (bY ⟨axT,ai⟩) Tryz.func181 ai
def JT:aZ:=⟨321,gn,uq,MS⟩
theorem WT:bc JT:=cg (l:=[]) Tryz.func321 ai
def JO:aZ:=⟨334,gn,uq,MR⟩
theorem WL:bc JO:=cg (l:=[]) Tryz.func334 ai
def JA:aZ:=⟨345,gn,uq,Mq⟩
theorem V8:bc JA:=cg (l:=[]) Tryz.func345 ai
def JD:aZ:=⟨352,gn,⟨jT,cF⟩,Mr⟩
theorem Wb:bc JD:=cg (l:=[ii]) Tryz.func352 ⟨rB,ai⟩
def Jr:aZ:=⟨362,gn,⟨jT,cF⟩,TY⟩
theorem VT:bc Jr:=cg (l:=[ii]) Tryz.func362 ⟨rB,ai⟩
def Jv:aZ:=⟨368,gn,⟨jT,cF⟩,T1⟩
theorem VZ:bc Jv:=cg (l:=[]) Tryz.func368 ai
def aab:aZ:=⟨187,gn,uq,rS⟩
noncomputable def aq6:bn:=mc hy (FG hy (hQ [JT,JO,JA,JD,Jr,Jv]) 110 Tryz.f110 (hQ [JT,JO,JA,JD,Jr,Jv])) (λk st=>.fail) 0
theorem arL:bc aab:=cB (F:=aq6) (fn:=Tryz.f187) (m:=[]) (Gd aD (Gx (F:=(mc hy (hQ [JT,JO,JA,JD,Jr,Jv]) (λ_ _=>.fail) 0)) eB (bY ⟨WT,WL,V8,Wb,VT,VZ,ai⟩) eQ Tryz.func110 aD aD aD) (bY ⟨WT,WL,V8,Wb,VT,VZ,ai⟩)) Tryz.func187 ai
def Yj:aZ:=⟨184,Ag,ew,pt⟩
theorem aqj:bc Yj:=cg (l:=[Jj,rD,wz]) Tryz.func184 ⟨Te,tq,zJ,ai⟩
def TN:aZ:=⟨183,⟨[(0,.dat ac),(1,.ptr 0 ac 0 [])],j2⟩,⟨[(0,dA)],j2⟩,EC⟩
def aoW:bn:=cv [Yj] [] 1
theorem XN:bc TN:=cB (F:=aoW) (fn:=Tryz.f183) (m:=[]) (bY ⟨aqj,ai⟩) Tryz.func183 ai
def agv:bO:=⟨⟨[(0,.dat (.list ac)),(1,.fn 183 [] [(.ptr 0 ac 0 [])]),(7,aL),(8,aL)],j2⟩,.ret,⟨[(4,aL)],j2⟩,(.exit 0),⟨[],j2⟩⟩
def agc:aZ:=⟨116,⟨[(0,.dat (.list ac)),(1,.fn 183 [] [(.ptr 0 ac 0 [])])],j2⟩,⟨[(0,aL)],j2⟩,QU⟩
def QG:bn:=cv [TN] [(0,agv.go QM 1)] 1
theorem agX:cd bk (QG).Γ:=bY ⟨XN,ai⟩
theorem axx:cR QG Tryz.f116 0 0:=cX (ay:=agv) (b:=Cf) (m:=[]) agX ai
theorem axX:bc agc:=cB (F:=QG) (fn:=Tryz.f116) (m:=dw Tryz.f116 [0]) agX Tryz.func116 ⟨axx,ai⟩
def afX:aZ:=⟨71,⟨[(0,.dat (.list ac)),(1,.fn 183 [] [(.ptr 0 ac 0 [])])],j2⟩,⟨[(0,dA)],j2⟩,HU⟩
def axc:bn:=cv [agc] [] 1
theorem axg:bc afX:=cB (F:=axc) (fn:=Tryz.f71) (m:=[]) (bY ⟨axX,ai⟩) Tryz.func71 ai
def agw:bO:=⟨⟨[(0,.own ac 0),(1,.fn 183 [] [(.ptr 1 ac 0 [])]),(7,aL),(8,aL)],uk⟩,.ret,⟨[(4,aL)],uk⟩,(.exit 0),⟨[],uk⟩⟩
def agd:aZ:=⟨116,⟨[(0,.own ac 0),(1,.fn 183 [] [(.ptr 1 ac 0 [])])],uk⟩,⟨[(0,aL)],uk⟩,QV⟩
def QH:bn:=cv [TN] [(0,agw.go Qr 2)] 2
theorem agY:cd bk (QH).Γ:=bY ⟨XN,ai⟩
theorem axy:cR QH Tryz.f116 0 0:=cX (ay:=agw) (b:=Cg) (m:=[]) agY ai
theorem axY:bc agd:=cB (F:=QH) (fn:=Tryz.f116) (m:=dw Tryz.f116 [0]) agY Tryz.func116 ⟨axy,ai⟩
def afY:aZ:=⟨71,⟨[(0,.own ac 0),(1,.fn 183 [] [(.ptr 1 ac 0 [])])],uk⟩,⟨[(0,dA)],uk⟩,HV⟩
def axd:bn:=cv [agd] [] 2
theorem axh:bc afY:=cB (F:=axd) (fn:=Tryz.f71) (m:=[]) (bY ⟨axY,ai⟩) Tryz.func71 ai
def W4:aZ:=⟨186,⟨[(0,.dat am),(1,.ptr 0 .opq 0 [])],qD⟩,⟨[(0,dA)],qD⟩,KV⟩
def aoX:bn:=cv [YY,Nd,aab,afX,afY] [] 2
theorem aoq:bc W4:=cB (F:=aoX) (fn:=Tryz.f186) (m:=[]) (bY ⟨aqH,aap,arL,axg,axh,ai⟩) Tryz.func186 ai
def agj:bO:=⟨⟨[(0,.dat (.list am)),(1,.fn 186 [] [(.ptr 0 .opq 0 [])]),(7,aL),(8,aL)],qD⟩,.ret,⟨[(4,aL)],qD⟩,(.exit 0),⟨[],qD⟩⟩
def agK:aZ:=⟨115,⟨[(0,.dat (.list am)),(1,.fn 186 [] [(.ptr 0 .opq 0 [])])],qD⟩,⟨[(0,aL)],qD⟩,io⟩
def QA:bn:=cv [W4] [(0,agj.go Q0 2)] 2
theorem agP:cd bk (QA).Γ:=bY ⟨aoq,ai⟩
theorem ax4:cR QA Tryz.f115 0 0:=cX (ay:=agj) (b:=B1) (m:=[]) agP ai
theorem ayk:bc agK:=cB (F:=QA) (fn:=Tryz.f115) (m:=dw Tryz.f115 [0]) agP Tryz.func115 ⟨ax4,ai⟩
def agH:aZ:=⟨185,⟨[(0,.dat (.list am)),(1,.fn 186 [] [(.ptr 0 .opq 0 [])])],qD⟩,⟨[(0,dA)],qD⟩,Ih⟩
def ax8:bn:=cv [agK] [] 2
theorem ayh:bc agH:=cB (F:=ax8) (fn:=Tryz.f185) (m:=[]) (bY ⟨ayk,ai⟩) Tryz.func185 ai
def Xr:bO:=⟨⟨[(2,.ptr 0 ey 0 []),(3,.ptr 1 ac 0 []),(6,c6),(67,.dat (.list .str)),(68,aL),(69,aL)],E5⟩,.ret,uw,(.exit 0),⟨[(2,.ptr 0 ey 0 []),(3,.ptr 1 ac 0 [])],E5⟩⟩
def Xs:bO:=⟨⟨[(2,.ptr 0 ey 0 []),(3,.ptr 1 ac 0 []),(90,.dat (.list (.int .i64))),(91,aL),(92,aL)],E5⟩,.ret,uw,(.exit 2),⟨[(2,.ptr 0 ey 0 []),(3,.ptr 1 ac 0 [])],E5⟩⟩
def Y0:aZ:=⟨148,Lh,ew,tH⟩
def Kw:bn:=cv [Wl,Yn,af7,agH] [(0,Xr.go MU 0),(2,Xs.go MV 0)] 0
theorem MT:cd bk (Kw).Γ:=bY ⟨aob,apN,axS,ayh,ai⟩
theorem apH:cR Kw Tryz.f148 0 0:=cX (ay:=Xr) (b:=wa) (m:=[]) MT ai
theorem apI:cR Kw Tryz.f148 2 1:=cX (ay:=Xs) (b:=Ee) (m:=[]) MT ai
theorem aqM:bc Y0:=cB (F:=Kw) (fn:=Tryz.f148) (m:=dw Tryz.f148 [0,2]) MT Tryz.func148 ⟨apH,apI,ai⟩
def Mu:aZ:=⟨189,⟨[(0,.ptr 0 eL 0 [0]),(1,aL),(2,aL)],[.box 95 eL mO]⟩,⟨[],[.box 95 eL mO]⟩,tG⟩
def apZ:bn:=cv [] [] 1
theorem Z7:bc Mu:=cB (F:=apZ) (fn:=Tryz.f189) (m:=[]) (bY ai) Tryz.func189 ai
def TF:aZ:=⟨189,⟨[(0,.ptr 0 eL 0 [1]),(1,aL),(2,aL)],[.box 95 eL mO]⟩,⟨[],[.box 95 eL mO]⟩,tn⟩
def anK:bn:=cv [] [] 1
theorem WV:bc TF:=cB (F:=anK) (fn:=Tryz.f189) (m:=[]) (bY ai) Tryz.func189 ai
def Ia:aZ:=⟨297,wU,iB,SD⟩
set_option maxHeartbeats 1000000 in
theorem ayv (a:ByteArray) (c:Int) (w:World):Calls bk 297 #[.string a,.int .u8 c] w λe aq=>e=.returned (.int .i64 (Lib.indexByte a.data.toList c.toNat.toUInt8))/\aq=w:=by
  go_enter Tryz.func297,Tryz.ntmps297
  go_wp2
  rw[run_callFunc_extern Tryz.func301 aD aD aD (e:=Extern.BytealgIndexByte.indexByte) aD,Lib.run_indexByteString]
  simp only[Result.andThen]
  rw[Oper.upon_value]
  go_wp2
  go_ret
  exact ⟨rfl,rfl⟩
theorem ay5:cE bk Ia:=alT (g:=λa c=>Lib.indexByte a c.toNat.toUInt8) Tryz.func297 aD ayv
theorem ahG:bc Ia:=ay5.x aD
def aiN:aZ:=⟨288,wU,iB,Wh⟩
theorem amU:bc aiN:=cg (l:=[Ia]) Tryz.func288 ⟨ahG,ai⟩
def ah3:aZ:=⟨289,⟨[(0,.dat (.int .i32))],[]⟩,ew,air⟩
theorem amc:bc ah3:=cg (l:=[]) Tryz.func289 ai
def aik:bO:=⟨⟨[(175,.ptr 0 .unit 0 [])],[.iter]⟩,.ret,⟨[(4,aL)],[]⟩,(.exit 9),⟨[],[]⟩⟩
def aiP:aZ:=⟨271,⟨[(0,c6),(1,.dat (.int .i32))],[]⟩,iB,JL⟩
def vk:bn:=cv [aiN,ah3] [(9,aik.go aiI 0)] 0
theorem aiG:cd bk (vk).Γ:=bY ⟨amU,amc,ai⟩
theorem amJ:cR vk Tryz.f271 1 1:=xi (λ_=>rfl)
theorem amK:cR vk Tryz.f271 3 2:=xi (λ_=>rfl)
theorem amL:cR vk Tryz.f271 5 3:=xi (λ_=>rfl)
end D
