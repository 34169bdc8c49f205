import Derived.Test.YtmmmpanpbphkdaaGreatDoorEa
set_option linter.unusedVariables false
set_option maxRecDepth 100000
open Go Go.X Go.Proofs D
namespace D
theorem aiM:cm P8 Tryz.f39 0 0:=cz (L:=Sj) (b:=wB) (m:=[]) Ue trivial
theorem Uf:aW PJ:=cc (F:=P8) (fn:=Tryz.f39) (m:=cS Tryz.f39 [0]) Ue Tryz.func39 ⟨aiM,trivial⟩
def Ak:aS:=⟨356,ue,iU,Av⟩
theorem OW:aW Ak:=bR (l:=[nT,AP,VC,PJ]) Tryz.func356 ⟨px,GP,ald,Uf,trivial⟩
def FV:aS:=⟨350,ue,iU,Gt⟩
theorem Rn:aW FV:=bR (l:=[nT,AP,Ak]) Tryz.func350 ⟨px,GP,OW,trivial⟩
def aeh:bA:=dk ⟨[(2,.ptr 0 cQ 0 []),(5,.own bd 1),(10,aK),(11,aK)],[.box 215 cQ (.dat cQ),.arr 58 bd false]⟩ 0 ⟨[(5,.own bd 0)],mg⟩
def FD:aS:=⟨366,ue,iU,Pu⟩
def OV:ba:=b9 [tz,vi] [(0,aeh.go OX 0)] 0
theorem aeL:bO Tryz.prog (OV).Γ:=bG ⟨ut,EE,trivial⟩
theorem ahj:cm OV Tryz.f366 0 0:=cz (L:=aeh) (b:=An) (m:=[]) aeL trivial
theorem aeM:aW FD:=cc (F:=OV) (fn:=Tryz.f366) (m:=cS Tryz.f366 [0]) aeL Tryz.func366 ⟨ahj,trivial⟩
def Ja:aS:=⟨61,⟨[(0,.dat (.list bd)),(1,.dat cQ)],[]⟩,p0,pK⟩
noncomputable def akW:ba:=ko fV (Cs fV (gi [F7,Ge,FR,Ak,FV,FD]) 110 Tryz.f110 (gi [F7,Ge,FR,Ak,FV,FD])) (fun k st=>.fail) 0
theorem Wi:aW Ja:=cc (F:=akW) (fn:=Tryz.f61) (m:=[]) (CQ (by kernel_rfl) (C2 (F:=(ko fV (gi [F7,Ge,FR,Ak,FV,FD]) (fun _ _=>.fail) 0)) dI (bG ⟨RR,RM,Rk,OW,Rn,aeM,trivial⟩) dS Tryz.func110 (by kernel_rfl) (by kernel_rfl) (by kernel_rfl)) (bG ⟨RR,RM,Rk,OW,Rn,aeM,trivial⟩)) Tryz.func61 trivial
def Ti:bA:=dk ⟨[(4,.ptr 0 c8 0 []),(6,.ptr 1 c8 0 []),(7,.own (.int .i64) 2)],[.box 32 c8 mX,.box 32 c8 (.agg [(.own hV 3)]),.arr 3 (.int .i64) false,.arr 87 hV false]⟩ 0 ⟨[(4,.ptr 0 c8 0 []),(6,.ptr 1 c8 0 [])],xr⟩
def VE:aS:=⟨64,pZ,pZ,Kp⟩
def Jk:ba:=b9 [G0,Ix] [(0,Ti.go V1 0)] 0
theorem V0:bO Tryz.prog (Jk).Γ:=bG ⟨I1,Vm,trivial⟩
theorem akm:cm Jk Tryz.f64 0 0:=cz (L:=Ti) (b:=VZ) (m:=[]) V0 trivial
theorem alm:aW VE:=cc (F:=Jk) (fn:=Tryz.f64) (m:=cS Tryz.f64 [0]) V0 Tryz.func64 ⟨akm,trivial⟩
def adm:aS:=⟨62,⟨[(0,.dat (.list cQ))],[]⟩,⟨[(0,.clip cQ)],[]⟩,adv⟩
theorem wt:aW adm:=bR (l:=[]) Tryz.func62 trivial
def Bp:Shape:=⟨[(0,.dat iq),(1,.dat cQ)],[]⟩
def Br:Shape:=⟨[(0,.dat iq),(1,aK)],[]⟩
def amc:aS:=⟨15,Bp,Br,KX⟩
def ame:ba:=lz [q9,q3,Jv,Jb,Ja,VE,adm]
theorem aml:ck Tryz.prog amc:=nD (F:=ame) (fn:=Tryz.f15) (m:=[]) (bG ⟨un,wO,WJ,Wj,Wi,alm,wt,trivial⟩) Tryz.func15 trivial
def Sl:bA:=dk ⟨[(1,.ptr 0 iq 0 []),(3,.ptr 1 dE 0 []),(5,aK)],[.box 36 iq (.dat iq),.box 85 dE (.dat dE)]⟩ 0 ⟨[(5,aK)],[]⟩
def AK:Shape:=Cc
def AA:Shape:=hd
def aiS:aS:=⟨17,AK,AA,JM⟩
def Qa:ba:=b9 [q9,q3] [(0,Sl.go Um 0)] 0
theorem Ul:bO Tryz.prog (Qa).Γ:=bG ⟨un,wO,trivial⟩
theorem aiO:cm Qa Tryz.f17 0 0:=cz (L:=Sl) (b:=Uk) (m:=[]) Ul trivial
theorem akN:ck Tryz.prog aiS:=nD (F:=Qa) (fn:=Tryz.f17) (m:=cS Tryz.f17 [0]) Ul Tryz.func17 ⟨aiO,trivial⟩
def AJ:Shape:=⟨[],[]⟩
def Az:Shape:=Cc
def aiR:aS:=⟨80,AJ,Az,JE⟩
def aiT:ba:=lz [Jg,IC]
theorem ajo:ck Tryz.prog aiR:=nD (F:=aiT) (fn:=Tryz.f80) (m:=[]) (bG ⟨V8,U3,trivial⟩) Tryz.func80 trivial
def OG:aS:=⟨85,⟨[(0,.ptr 0 eR 0 []),(1,aK),(2,.dat ac),(3,.dat (.list ac))],[.box 143 eR kW]⟩,⟨[(0,.fn 135 [] [(.ptr 1 .opq 0 []),(.ptr 2 (.int .i64) 0 []),(.ptr 3 ac 0 []),(.ptr 4 (.list ac) 0 [])])],[.box 143 eR kW,.box 141 .opq (.ptr 0 eR 0 []),.box 3 (.int .i64) aK,.box 39 ac (.dat ac),.box 62 (.list ac) (.dat (.list ac))]⟩,o5⟩
def ag1:ba:=b9 [] [] 1
theorem aec:aW OG:=cc (F:=ag1) (fn:=Tryz.f85) (m:=[]) (bG trivial) Tryz.func85 trivial
def vv:Shape:=⟨[(0,.ptr 0 eR 0 []),(1,.dat dE),(2,.dat ac),(3,.dat (.list ac))],[.box 143 eR kW]⟩
def vw:Shape:=⟨[(0,.dat (.list bd))],[.box 143 eR kW]⟩
def nQ (cq:(bq×ah×(List ah)×bN×Int×Unit)->Option ((List ak)×bN×Int×Unit)):aS:=⟨136,vv,vw,cq⟩
def N8:aS:=⟨234,rY,⟨h7,cb⟩,EM⟩
def aua:ba:=ko fV (gi []) (fun _ _=>.fail) 0
theorem aug:ck Tryz.prog N8:=
  Yc (F:=aua) dI (bG trivial) dS (fn:=Tryz.f234) Tryz.func234 (by kernel_rfl) (by kernel_rfl) (by kernel_rfl) (by kernel_rfl) (by kernel_rfl) (fun s=>(decide ((List.length ([]:List ah)+List.length s.1)*32<=bm))) (fun s=>(s.1,())) (fun s=>([],())) (fun s=>List.length s.1) (fun s=>rfl) (fun s=>by kernel_rfl) (fun s=>by kernel_rfl) (fun s h=>congrArg (fun l=>(l,())) (List.eq_nil_of_length_eq_zero h).symm)
theorem auh:aW N8:=aug.x (by kernel_rfl)
def i7:bA:=⟨⟨[(0,.own ac 0),(1,.fn 74 [] []),(7,aK),(8,aK)],cb⟩,.ret,⟨[(4,aK)],cb⟩,(.exit 0),⟨[],cb⟩⟩
def abS:aS:=⟨116,⟨[(0,.own ac 0),(1,.fn 74 [] [])],cb⟩,⟨[(0,aK)],cb⟩,vc⟩
def LS:ba:=b9 [pA] [(0,i7.go LZ 1)] 1
theorem ab8:bO Tryz.prog (LS).Γ:=bG ⟨q0,trivial⟩
theorem asg:cm LS Tryz.f116 0 0:=cz (L:=i7) (b:=yM) (m:=[]) ab8 trivial
theorem asH:aW abS:=cc (F:=LS) (fn:=Tryz.f116) (m:=cS Tryz.f116 [0]) ab8 Tryz.func116 ⟨asg,trivial⟩
def ab0:bA:=dk ⟨[(0,.own ac 0),(1,.fn 74 [] []),(5,aK),(6,aK)],cb⟩ 0 ⟨[(0,.own ac 0),(5,aK)],cb⟩
def acE:aS:=⟨233,⟨[(0,.own ac 0),(1,.fn 74 [] [])],cb⟩,⟨[(0,.own ac 1)],[.gone,.arr 39 ac false]⟩,yV⟩
def Ma:ba:=b9 [pA,abS] [(0,ab0.go Me 1)] 1
theorem acJ:bO Tryz.prog (Ma).Γ:=bG ⟨q0,asH,trivial⟩
theorem as6:cm Ma Tryz.f233 0 0:=cz (L:=ab0) (b:=vb) (m:=[]) acJ trivial
theorem as2:aW acE:=cc (F:=Ma) (fn:=Tryz.f233) (m:=cS Tryz.f233 [0]) acJ Tryz.func233 ⟨as6,trivial⟩
def aew:aS:=⟨269,Ht,hd,Pp⟩
theorem ahJ:aW aew:=bR (l:=[]) Tryz.func269 trivial
def O3:aS:=⟨252,Ht,hd,pi⟩
theorem RL:aW O3:=bR (l:=[aew]) Tryz.func252 ⟨ahJ,trivial⟩
def vj:Shape:=⟨BZ,cb⟩
def co:Shape:=⟨[],cb⟩
def qn (bT:(Int×Int×Int×(List ah)×Unit)->Option ((List ah)×Unit)):aS:=⟨251,vj,co,bT⟩
def ad4:aS:=⟨237,hT,hd,FG⟩
theorem ag2:aW ad4:=bR (l:=[OP]) Tryz.func237 ⟨aeC,trivial⟩
def qY:aS:=⟨236,xn,hd,jA⟩
theorem tj:aW qY:=bR (l:=[ad4]) Tryz.func236 ⟨ag2,trivial⟩
def abv:bA:=dk ⟨[(0,.own ac 0),(1,aK),(2,aK),(3,.fn 236 [] []),(8,aK),(9,aK)],cb⟩ 2 ⟨[(0,.own ac 0),(1,aK),(2,aK),(3,.fn 236 [] []),(8,aK)],cb⟩
def abu:bA:=dk ⟨[(0,.own ac 0),(1,aK),(2,aK),(3,.fn 236 [] []),(8,aK)],cb⟩ 0 ⟨[],cb⟩
def abK:aS:=⟨260,⟨ud,cb⟩,⟨[],cb⟩,Ek⟩
def Ex:ba:=b9 [qY] [(2,abv.go Ey 1),(0,abu.go Mp 1)] 1
theorem Mo:bO Tryz.prog (Ex).Γ:=bG ⟨tj,trivial⟩
theorem abI:cm Ex Tryz.f260 2 1:=cz (L:=abv) (b:=u9) (m:=[]) Mo trivial
theorem asN:cm Ex Tryz.f260 0 0:=cz (L:=abu) (b:=y1) (m:=[(2,ip (bK Tryz.f260) 1)]) Mo ⟨abI,trivial⟩
theorem as9:aW abK:=cc (F:=Ex) (fn:=Tryz.f260) (m:=cS Tryz.f260 [0,2]) Mo Tryz.func260 ⟨asN,abI,trivial⟩
def ac2:bA:=⟨⟨[(0,.own ac 0),(2,aK),(3,aK),(4,.fn 236 [] []),(10,aK)],cb⟩,(.exit 0),⟨[],cb⟩,.ret,⟨[],cb⟩⟩
def acY:aS:=⟨283,⟨BZ,cb⟩,⟨[],cb⟩,ze⟩
def Mz:ba:=b9 [qY] [(0,ac2.go N4 1)] 1
theorem adj:bO Tryz.prog (Mz).Γ:=bG ⟨tj,trivial⟩
theorem atK:cm Mz Tryz.f283 0 0:=cz (L:=ac2) (b:=sx) (m:=[]) adj trivial
theorem at0:aW acY:=cc (F:=Mz) (fn:=Tryz.f283) (m:=cS Tryz.f283 [0]) adj Tryz.func283 ⟨atK,trivial⟩
def ac0:bA:=dk ⟨[(0,.own ac 0),(3,.fn 236 [] []),(8,aK),(9,aK),(10,aK),(11,aK)],cb⟩ 0 ⟨[(0,.own ac 0),(3,.fn 236 [] []),(8,aK),(9,aK),(10,aK)],cb⟩
def ac1:bA:=dk ⟨[(0,.own ac 0),(3,.fn 236 [] []),(8,aK),(9,aK),(12,aK)],cb⟩ 2 ⟨[],cb⟩
def acX:aS:=⟨261,⟨ud,cb⟩,⟨[],cb⟩,EL⟩
def Ew:ba:=b9 [acY] [(0,ac0.go MO 1),(2,ac1.go MR 1)] 1
theorem MN:bO Tryz.prog (Ew).Γ:=bG ⟨at0,trivial⟩
theorem atH:cm Ew Tryz.f261 0 0:=cz (L:=ac0) (b:=yY) (m:=[]) MN trivial
theorem atI:cm Ew Tryz.f261 2 1:=cz (L:=ac1) (b:=yZ) (m:=[]) MN trivial
theorem atY:aW acX:=cc (F:=Ew) (fn:=Tryz.f261) (m:=cS Tryz.f261 [0,2]) MN Tryz.func261 ⟨atH,atI,trivial⟩
def adb:aS:=⟨296,⟨[(0,.own ac 0),(1,aK),(2,aK),(3,.ptr 1 (.int .i64) 0 []),(4,.fn 236 [] [])],ug⟩,⟨[(0,aK),(1,aK)],ug⟩,vh⟩
def aum:ba:=b9 [qY] [] 2
theorem auo:aW adb:=cc (F:=aum) (fn:=Tryz.f296) (m:=[]) (bG ⟨tj,trivial⟩) Tryz.func296 trivial
def N9:aS:=⟨287,⟨[(0,.own ac 0),(1,aK),(2,aK),(3,aK),(4,.ptr 1 (.int .i64) 0 []),(5,.fn 236 [] [])],ug⟩,⟨[(0,aK)],ug⟩,zb⟩
def aul:ba:=b9 [adb] [] 2
theorem ade:aW N9:=cc (F:=aul) (fn:=Tryz.f287) (m:=[]) (bG ⟨auo,trivial⟩) Tryz.func287 trivial
def abX:aS:=⟨286,⟨[(0,.own ac 0),(1,aK),(2,.ptr 1 (.int .i64) 0 []),(3,.fn 236 [] [])],ug⟩,⟨[(0,aK)],ug⟩,vd⟩
def asD:ba:=b9 [N9] [] 2
theorem asO:aW abX:=cc (F:=asD) (fn:=Tryz.f286) (m:=[]) (bG ⟨ade,trivial⟩) Tryz.func286 trivial
def acg:aS:=⟨263,⟨ud,cb⟩,⟨[(0,aK),(1,aK)],cb⟩,EI⟩
def ath:ba:=b9 [N9,abX] [] 1
theorem ato:aW acg:=cc (F:=ath) (fn:=Tryz.f263) (m:=[]) (bG ⟨ade,asO,trivial⟩) Tryz.func263 trivial
def ab2:bA:=dk ⟨[(0,.own ac 0),(8,aK),(9,aK)],cb⟩ 0 ⟨[],cb⟩
def acG:aS:=⟨264,⟨ud,cb⟩,⟨[],cb⟩,yX⟩
def Mc:ba:=b9 [] [(0,ab2.go Mf 1)] 1
theorem acN:bO Tryz.prog (Mc).Γ:=bG trivial
theorem ata:cm Mc Tryz.f264 0 0:=cz (L:=ab2) (b:=y5) (m:=[]) acN trivial
theorem rg:aW acG:=cc (F:=Mc) (fn:=Tryz.f264) (m:=cS Tryz.f264 [0]) acN Tryz.func264 ⟨ata,trivial⟩
end D
open Go Go.X Go.Proofs D
namespace D
def aaf:bA:=dk ⟨xq,cb⟩ 2 ⟨xq,cb⟩
def gc:bA:=dk ⟨[(0,.own ac 0),(1,aK),(2,aK),(3,.fn 236 [] []),(9,aK),(10,aK),(11,aK)],cb⟩ 4 ⟨xq,cb⟩
def aag:bA:=dk ⟨[(0,.own ac 0),(1,aK),(2,aK),(3,.fn 236 [] []),(9,aK),(10,aK),(12,aK)],cb⟩ 6 ⟨xq,cb⟩
def aad:bA:=⟨⟨xq,cb⟩,.ret,⟨[(8,c7)],cb⟩,(.exit 0),⟨[],cb⟩⟩
def aac:aS:=⟨265,⟨ud,cb⟩,⟨[(0,c7)],cb⟩,yG⟩
def ux:ba:=b9 [qY] [(2,aaf.go ci 1),(4,gc.go Ei 1),(6,aag.go Ej 1),(0,aad.go LN 1)] 1
theorem yF:bO Tryz.prog (ux).Γ:=bG ⟨tj,trivial⟩
theorem aai:cm ux Tryz.f265 2 1:=cz (L:=aaf) (b:=yQ) (m:=[]) yF trivial
theorem aaj:cm ux Tryz.f265 4 2:=cz (L:=gc) (b:=yR) (m:=[]) yF trivial
theorem aak:cm ux Tryz.f265 6 3:=cz (L:=aag) (b:=yS) (m:=[]) yF trivial
theorem ar5:cm ux Tryz.f265 0 0:=cz (L:=aad) (b:=bv) (m:=[(2,ip (bK Tryz.f265) 1),(4,ip (bK Tryz.f265) 2),(6,ip (bK Tryz.f265) 3)]) yF ⟨aai,aaj,aak,trivial⟩
theorem asc:aW aac:=cc (F:=ux) (fn:=Tryz.f265) (m:=cS Tryz.f265 [0,2,4,6]) yF Tryz.func265 ⟨ar5,aai,aaj,aak,trivial⟩
def abq:bA:=dk ⟨xl,cb⟩ 2 ⟨xl,cb⟩
def abr:bA:=dk ⟨xl,cb⟩ 4 ⟨xl,cb⟩
def abp:bA:=dk ⟨xl,cb⟩ 0 ⟨[(11,aK)],cb⟩
def abY:aS:=⟨266,⟨BZ,cb⟩,⟨[(0,aK)],cb⟩,y9⟩
def yI:ba:=b9 [qY] [(2,abq.go L2 1),(4,abr.go L3 1),(0,abp.go Eg 1)] 1
theorem Ef:bO Tryz.prog (yI).Γ:=bG ⟨tj,trivial⟩
theorem abw:cm yI Tryz.f266 2 1:=cz (L:=abq) (b:=Ed) (m:=[]) Ef trivial
theorem abx:cm yI Tryz.f266 4 2:=cz (L:=abr) (b:=Ee) (m:=[]) Ef trivial
theorem asm:cm yI Tryz.f266 0 0:=cz (L:=abp) (b:=Ec) (m:=[(2,ip (bK Tryz.f266) 1),(4,ip (bK Tryz.f266) 2)]) Ef ⟨abw,abx,trivial⟩
theorem asP:aW abY:=cc (F:=yI) (fn:=Tryz.f266) (m:=cS Tryz.f266 [0,2,4]) Ef Tryz.func266 ⟨asm,abw,abx,trivial⟩
def aci:bA:=dk ⟨oE,cb⟩ 0 ⟨oE,cb⟩
def acj:bA:=dk ⟨oE,cb⟩ 2 ⟨oE,cb⟩
def acm:bA:=dk ⟨oE,cb⟩ 6 ⟨oE,cb⟩
def acn:bA:=dk ⟨oE,cb⟩ 8 ⟨oE,cb⟩
def ack:bA:=dk ⟨oE,cb⟩ 4 ⟨[(0,.own ac 0),(1,aK),(13,aK)],cb⟩
def acS:aS:=⟨267,⟨BZ,cb⟩,⟨[(0,aK),(1,c7)],cb⟩,zc⟩
def sy:ba:=b9 [qY] [(0,aci.go Mt 1),(2,acj.go Mu 1),(6,acm.go Mv 1),(8,acn.go Mw 1),(4,ack.go Et 1)] 1
theorem vg:bO Tryz.prog (sy).Γ:=bG ⟨tj,trivial⟩
theorem atA:cm sy Tryz.f267 0 0:=cz (L:=aci) (b:=En) (m:=[]) vg trivial
theorem atB:cm sy Tryz.f267 2 1:=cz (L:=acj) (b:=Eo) (m:=[]) vg trivial
theorem ac5:cm sy Tryz.f267 6 3:=cz (L:=acm) (b:=Er) (m:=[]) vg trivial
theorem ac7:cm sy Tryz.f267 8 4:=cz (L:=acn) (b:=Es) (m:=[]) vg trivial
theorem atC:cm sy Tryz.f267 4 2:=cz (L:=ack) (b:=Ep) (m:=[(6,ip (bK Tryz.f267) 3),(8,ip (bK Tryz.f267) 4)]) vg ⟨ac5,ac7,trivial⟩
theorem atJ:aW acS:=cc (F:=sy) (fn:=Tryz.f267) (m:=cS Tryz.f267 [0,2,4,6,8]) vg Tryz.func267 ⟨atA,atB,atC,ac5,ac7,trivial⟩
def adC:aS:=⟨284,hd,Ht,Fv⟩
theorem agx:aW adC:=bR (l:=[O3]) Tryz.func284 ⟨RL,trivial⟩
def adK:aS:=⟨285,⟨[(0,.ptr 0 (.int .u64) 0 [])],[.box 315 (.int .u64) (.dat (.int .u64))]⟩,⟨[(0,.dat (.int .u64))],[.box 315 (.int .u64) (.dat (.int .u64))]⟩,OK⟩
def agG:ba:=b9 [] [] 1
theorem agD:aW adK:=cc (F:=agG) (fn:=Tryz.f285) (m:=[]) (bG trivial) Tryz.func285 trivial
def abt:bA:=dk ⟨[(0,.own ac 0),(1,aK),(8,aK),(9,.ptr 1 (.int .u64) 0 []),(10,.dat (.int .u64)),(11,aK)],[.arr 39 ac false,.box 315 (.int .u64) (.dat (.int .u64))]⟩ 0 ⟨[],cb⟩
def abJ:aS:=⟨262,⟨ud,cb⟩,⟨[],cb⟩,d9⟩
def Mm:ba:=b9 [adC,adK] [(0,abt.go Mn 1)] 1
theorem abO:bO Tryz.prog (Mm).Γ:=bG ⟨agx,agD,trivial⟩
theorem asM:cm Mm Tryz.f262 0 0:=cz (L:=abt) (b:=y0) (m:=[]) abO trivial
theorem as8:aW abJ:=cc (F:=Mm) (fn:=Tryz.f262) (m:=cS Tryz.f262 [0]) abO Tryz.func262 ⟨asM,trivial⟩
def p8:bA:=⟨⟨[(0,.own ac 0),(1,aK),(2,aK),(3,aK),(4,.fn 236 [] []),(10,c7),(11,c7),(12,aK),(13,aK),(75,c7)],cb⟩,.nrm,⟨QE,cb⟩,.ret,⟨[],cb⟩⟩
def p9:bA:=⟨⟨[(0,.own ac 0),(1,aK),(2,aK),(3,aK),(4,.fn 236 [] []),(10,c7),(11,c7),(12,aK),(13,aK),(97,c7)],cb⟩,.nrm,⟨QL,cb⟩,(.exit 1),⟨xp,cb⟩⟩
def qb:bA:=⟨⟨QL,cb⟩,.nrm,⟨xp,cb⟩,(.exit 90000020),⟨[],[]⟩⟩
def qa:bA:=⟨⟨QE,cb⟩,.nrm,⟨xp,cb⟩,(.exit 1),⟨xp,cb⟩⟩
def ve:bA:=⟨⟨xp,cb⟩,.ret,⟨[],cb⟩,(.exit 80000000),⟨[],[]⟩⟩
def io:aS:=⟨251,vj,co,Oe⟩
def jx (bT:(Int×Int×Int×(List ah)×Unit)->Option ((List ah)×Unit)):ba:=b9 [(qn bT),qY,abK,acX,acg,acG,aac,abY,acS,abJ] [(0,ve.go (EG bT) 1)] 1
def mj (bT:(Int×Int×Int×(List ah)×Unit)->Option ((List ah)×Unit)):jU:=[(100016,p8.go (lF bT) 1),(100018,p9.go (nJ bT) 1),(20,qb.go (oM bT) 1),(17,qa.go (km bT) 1)]
theorem asn (bT:(Int×Int×Int×(List ah)×Unit)->Option ((List ah)×Unit)) (s:p8.S.ty.den): @Eq (Option p8.Out) ((fo (jx bT) (mj bT) (dZ (bK Tryz.f251) 100016) 1 (p8.S.enc s)).bind fun (e,st)=>p8.out (jx bT).m e st).val (lF bT s):=by kernel_rfl
theorem asT (bT:(Int×Int×Int×(List ah)×Unit)->Option ((List ah)×Unit)) (s:p9.S.ty.den): @Eq (Option p9.Out) ((fo (jx bT) (mj bT) (dZ (bK Tryz.f251) 100018) 1 (p9.S.enc s)).bind fun (e,st)=>p9.out (jx bT).m e st).val (nJ bT s):=by kernel_rfl
theorem atL (bT:(Int×Int×Int×(List ah)×Unit)->Option ((List ah)×Unit)) (s:qb.S.ty.den): @Eq (Option qb.Out) ((fo (jx bT) (mj bT) (dZ (bK Tryz.f251) 20) 1 (qb.S.enc s)).bind fun (e,st)=>qb.out (jx bT).m e st).val (oM bT s):=by kernel_rfl
theorem atp (bT:(Int×Int×Int×(List ah)×Unit)->Option ((List ah)×Unit)) (s:qa.S.ty.den): @Eq (Option qa.Out) ((fo (jx bT) (mj bT) (dZ (bK Tryz.f251) 17) 1 (qa.S.enc s)).bind fun (e,st)=>qa.out (jx bT).m e st).val (km bT s):=by kernel_rfl
theorem atD (bT:(Int×Int×Int×(List ah)×Unit)->Option ((List ah)×Unit)) (s:ve.S.ty.den): @Eq (Option (ve.S.ty.den⊕ve.Out)) (ve.bodyK (jx bT) (mj bT) (ip (bK Tryz.f251) 0) 0 s).val (vk bT s):=by kernel_rfl
theorem aui (bT:(Int×Int×Int×(List ah)×Unit)->Option ((List ah)×Unit)) (s:vj.ty.den): @Eq (Option co.ty.den) (ql (jx bT) (mj bT) Tryz.f251 vj co s).val (yW bT s):=by kernel_rfl
theorem vl (bT:(Int×Int×Int×(List ah)×Unit)->Option ((List ah)×Unit)) (jn:ck Tryz.prog (qn bT)):bO Tryz.prog (jx bT).Γ:=bG ⟨(jn.x (by kernel_rfl)),tj,as9,atY,ato,rg,asc,asP,atJ,as8,trivial⟩
theorem asS (bT:(Int×Int×Int×(List ah)×Unit)->Option ((List ah)×Unit)) (jn:ck Tryz.prog (qn bT)):h6 Tryz.prog (jx bT) Tryz.f251.ntmps (p8.go (lF bT) 1) (dZ (bK Tryz.f251) 100016):=
  j7 dI (vl bT jn) dS (L:=p8) (k:=1) (f:=lF bT) (C:=(mj bT)) (l:=[]) (m:=[]) (by kernel_rfl) trivial (by kernel_rfl) trivial (by kernel_rfl) (dW _ (by kernel_rfl)) (asn bT)
theorem asV (bT:(Int×Int×Int×(List ah)×Unit)->Option ((List ah)×Unit)) (jn:ck Tryz.prog (qn bT)):h6 Tryz.prog (jx bT) Tryz.f251.ntmps (p9.go (nJ bT) 1) (dZ (bK Tryz.f251) 100018):=
  j7 dI (vl bT jn) dS (L:=p9) (k:=1) (f:=nJ bT) (C:=(mj bT)) (l:=[]) (m:=[]) (by kernel_rfl) trivial (by kernel_rfl) trivial (by kernel_rfl) (dW _ (by kernel_rfl)) (asT bT)
theorem atM (bT:(Int×Int×Int×(List ah)×Unit)->Option ((List ah)×Unit)) (jn:ck Tryz.prog (qn bT)):h6 Tryz.prog (jx bT) Tryz.f251.ntmps (qb.go (oM bT) 1) (dZ (bK Tryz.f251) 20):=
  j7 dI (vl bT jn) dS (L:=qb) (k:=1) (f:=oM bT) (C:=(mj bT)) (l:=[]) (m:=[]) (by kernel_rfl) trivial (by kernel_rfl) trivial (by kernel_rfl) (dW _ (by kernel_rfl)) (atL bT)
theorem atq (bT:(Int×Int×Int×(List ah)×Unit)->Option ((List ah)×Unit)) (jn:ck Tryz.prog (qn bT)):h6 Tryz.prog (jx bT) Tryz.f251.ntmps (qa.go (km bT) 1) (dZ (bK Tryz.f251) 17):=
  j7 dI (vl bT jn) dS (L:=qa) (k:=1) (f:=km bT) (C:=(mj bT)) (l:=[]) (m:=[(p9.go (nJ bT) 1,dZ (bK Tryz.f251) 100018),(qb.go (oM bT) 1,dZ (bK Tryz.f251) 20)]) (by kernel_rfl) trivial (by kernel_rfl) ⟨asV bT jn,atM bT jn,trivial⟩ (by kernel_rfl) (dW _ (by kernel_rfl)) (atp bT)
theorem atZ (bT:(Int×Int×Int×(List ah)×Unit)->Option ((List ah)×Unit)) (jn:ck Tryz.prog (qn bT)):fT Tryz.prog (jx bT) Tryz.f251.ntmps 0 (ip (bK Tryz.f251) 0):=
  amW dI (vl bT jn) dS (L:=ve) (f:=EG bT) (b:=vk bT) (C:=(mj bT)) (l:=[]) (m:=[(p8.go (lF bT) 1,dZ (bK Tryz.f251) 100016),(qa.go (km bT) 1,dZ (bK Tryz.f251) 17)]) (fun _=>rfl) (by kernel_rfl) (by kernel_rfl) trivial (by kernel_rfl) ⟨asS bT jn,atq bT jn,trivial⟩ (by kernel_rfl) (dW _ (by kernel_rfl)) (atD bT)
theorem atr (bT:(Int×Int×Int×(List ah)×Unit)->Option ((List ah)×Unit)) (jn:ck Tryz.prog (qn bT)):ck Tryz.prog ⟨251,vj,co,yW bT⟩:=
  BT (C:=(mj bT)) (F:=(jx bT)) dI (vl bT jn) dS (fn:=Tryz.f251) (l:=[(0,ip (bK Tryz.f251) 0)]) (m:=[]) Tryz.func251 (by kernel_rfl) (by kernel_rfl) (by kernel_rfl) ⟨atZ bT jn,trivial⟩ (by kernel_rfl) trivial (dW _ (by kernel_rfl)) (by kernel_rfl) (aui bT)
theorem acM: ∀n,ck Tryz.prog ⟨251,vj,co,Eu n⟩
  |0=>Dl
  |n+1=>atr _ (acM n)
theorem auj:ck Tryz.prog io:=acM jV
theorem auk:aW io:=(auj).x (by kernel_rfl)
def acz:aS:=⟨235,⟨[(0,.own ac 0),(1,.fn 236 [] [])],cb⟩,⟨[],cb⟩,EF⟩
def atS:ba:=b9 [O3,io] [] 1
theorem atz:aW acz:=cc (F:=atS) (fn:=Tryz.f235) (m:=[]) (bG ⟨RL,auk,trivial⟩) Tryz.func235 trivial
def TW:bA:=dk ⟨[(4,.own ac 0),(13,.own ac 1),(14,aK),(15,aK)],[.arr 39 ac false,.arr 39 ac false]⟩ 0 ⟨[(4,.own ac 0)],cb⟩
def G1:aS:=⟨213,rY,⟨h7,cb⟩,tM⟩
def Jm:ba:=b9 [Fz,N8,acE,acz] [(0,TW.go Jq 0)] 0
theorem Wa:bO Tryz.prog (Jm).Γ:=bG ⟨ON,auh,as2,atz,trivial⟩
theorem ak5:cm Jm Tryz.f213 0 0:=cz (L:=TW) (b:=q5) (m:=[]) Wa trivial
theorem Jr:aW G1:=cc (F:=Jm) (fn:=Tryz.f213) (m:=cS Tryz.f213 [0]) Wa Tryz.func213 ⟨ak5,trivial⟩
def TX:bA:=⟨⟨[(3,.own ac 0),(4,cu),(7,.dat (.list ac)),(8,aK),(9,aK)],cb⟩,.ret,⟨[(2,.own ac 0)],cb⟩,(.exit 0),⟨[(3,.own ac 0),(4,cu)],cb⟩⟩
def VK:aS:=⟨238,rY,⟨h7,cb⟩,xQ⟩
def Jn:ba:=b9 [] [(0,TX.go Js 0)] 0
theorem Wb:bO Tryz.prog (Jn).Γ:=bG trivial
theorem ak7:cm Jn Tryz.f238 0 0:=cz (L:=TX) (b:=q6) (m:=[]) Wb trivial
theorem alz:aW VK:=cc (F:=Jn) (fn:=Tryz.f238) (m:=cS Tryz.f238 [0]) Wb Tryz.func238 ⟨ak7,trivial⟩
def SJ:bA:=dk ⟨[(0,.dat (.list ac)),(5,.own ac 0),(7,.ptr 1 ac 0 []),(12,.own ac 2),(13,aK),(14,aK),(18,.dat (.list ac)),(19,aK),(20,aK)],[.arr 39 ac false,.box 39 ac (.dat ac),.arr 39 ac false]⟩ 2 Qk
def SI:bA:=dk Qk 0 ⟨[(5,.own ac 0)],cb⟩
def Uz:aS:=⟨215,⟨[(0,.dat (.list ac)),(1,.dat (.list ac))],[]⟩,⟨h7,cb⟩,CT⟩
def GI:ba:=b9 [Ba,G1,VK] [(2,SJ.go Iq 0),(0,SI.go Ip 0)] 0
theorem Io:bO Tryz.prog (GI).Γ:=bG ⟨GX,Jr,alz,trivial⟩
theorem T9:cm GI Tryz.f215 2 1:=cz (L:=SJ) (b:=A3) (m:=[]) Io trivial
theorem ajK:cm GI Tryz.f215 0 0:=cz (L:=SI) (b:=AY) (m:=[(2,ip (bK Tryz.f215) 1)]) Io ⟨T9,trivial⟩
theorem ak4:aW Uz:=cc (F:=GI) (fn:=Tryz.f215) (m:=cS Tryz.f215 [0,2]) Io Tryz.func215 ⟨ajK,T9,trivial⟩
def R5:aS:=⟨214,⟨[(0,.dat (.list ac)),(1,.ptr 0 (.list ac) 0 [])],[.box 62 (.list ac) (.own ac 1),.arr 39 ac false]⟩,⟨[(0,.own ac 2)],[.box 62 (.list ac) (.own ac 1),.arr 39 ac true,.arr 39 ac false]⟩,pu⟩
def aio:ba:=b9 [Uz] [] 2
theorem aix:aW R5:=cc (F:=aio) (fn:=Tryz.f214) (m:=[]) (bG ⟨ak4,trivial⟩) Tryz.func214 trivial
def Tf:aS:=⟨218,⟨[(0,.dat ac),(1,cu),(2,cu)],[]⟩,mW,By⟩
theorem akK:aW Tf:=bR (l:=[nT,GG]) Tryz.func218 ⟨px,Ir,trivial⟩
def adZ:bA:=dk ⟨[(5,.ptr 1 (.list ac) 0 []),(7,.ptr 3 cQ 0 []),(9,.ptr 4 ac 0 []),(11,.own ac 5),(60,.own ac 2),(61,aK),(62,aK)],[.loop 1016800 B9,.box 62 (.list ac) (.own ac 2),.arr 39 ac true,.box 41 cQ (.dat cQ),.box 39 ac (.dat ac),.arr 39 ac false]⟩ 3 ⟨[(5,.ptr 1 (.list ac) 0 []),(11,.own ac 3)],[.loop 1016800 B9,.box 62 (.list ac) (.own ac 2),.arr 39 ac true,.arr 39 ac false]⟩
def OB:Shape:=⟨[(0,.yld 1016800 0),(1,aK),(2,.dat cQ)],[.loop 1016800 B9,.box 62 (.list ac) (.own ac 2),.arr 39 ac false]⟩
def OC:Shape:=⟨[(0,c7)],[.loop 1016800 B9,.box 62 (.list ac) (.own ac 3),.gone,.arr 39 ac false]⟩
def ad6:aS:=⟨1016800,OB,OC,dl⟩
def Fu:ba:=b9 [pA,Ba,Bn,nT,G1,R5,Tf] [(3,adZ.go OD 3)] 3
theorem agV (s:OB.ty.den): @Eq (Option OC.ty.den) (qf Fu e0 1016800 (iI Tryz.f168 0) OB OC s).val (dl s):=by kernel_rfl
theorem aeb:bO Tryz.prog (Fu).Γ:=bG ⟨q0,GX,CC,px,Jr,aix,akK,trivial⟩
theorem agQ:fT Tryz.prog Fu Tryz.f168.ntmps 3 (ip (Ra Tryz.f168 0) 0):=cz (L:=adZ) (b:=vx) (m:=[]) aeb trivial
theorem agW:aW ad6:=
  CR (F:=Fu) (c:=iI Tryz.f168 0) dI aeb dS (by kernel_rfl) (by kernel_rfl) (by kernel_rfl) (m:=[(3,ip (Ra Tryz.f168 0) 0)]) (by kernel_rfl) ⟨agQ,trivial⟩ (by kernel_rfl) agV
def i5:bA:=⟨⟨[(0,.yld 1016800 0),(1,.ptr 1 (.list cQ) 0 []),(3,aK)],B3⟩,.ret,⟨[],B3⟩,(.exit 0),⟨[],B3⟩⟩
def abP:aS:=⟨209,⟨[(0,.yld 1016800 0),(1,.ptr 1 (.list cQ) 0 [])],[.loop 1016800 [(5,.ptr 2 (.list ac) 0 [])],.box 83 (.list cQ) (.dat (.list cQ)),.box 62 (.list ac) (.own ac 3),.arr 39 ac false]⟩,⟨[],B3⟩,Mk⟩
def LQ:ba:=b9 [ad6] [(0,i5.go LY 4)] 4
theorem ab3:bO Tryz.prog (LQ).Γ:=bG ⟨agW,trivial⟩
theorem ase:cm LQ Tryz.f209 0 0:=cz (L:=i5) (b:=yJ) (m:=[]) ab3 trivial
theorem asE:aW abP:=cc (F:=LQ) (fn:=Tryz.f209) (m:=cS Tryz.f209 [0]) ab3 Tryz.func209 ⟨ase,trivial⟩
def Qb:Shape:=⟨[(0,.dat ac),(1,.dat (.list cQ))],[]⟩
def Qc:Shape:=⟨h7,cb⟩
def PK:aS:=⟨168,Qb,Qc,BH⟩
def Tg:ba:={cx:=fV,Γ:=gi [Mx,G1,abP],Λ:=fun k st=>.fail,keep:=fun _=>none,m:=0,rfs:=fun k=>bif Nat.beq k 3 then some 1016800 else none,its:=[209]}
theorem akG (s:Qb.ty.den): @Eq (Option Qc.ty.den) (k5 Tg Tryz.f168 Qb Qc s).val (BH s):=by kernel_rfl
theorem akH:ck Tryz.prog PK:=
  rG (F:=Tg) dI (bG ⟨adh,Jr,asE,trivial⟩) dS (fn:=Tryz.f168) (m:=[]) Tryz.func168 (by kernel_rfl) (by kernel_rfl) (by kernel_rfl) trivial (yd (m:=[(3,iI Tryz.f168 0)]) (its:=[209]) (by kernel_rfl) ⟨yn (Y:=1016800) (by kernel_rfl) (by kernel_rfl),trivial⟩ (by kernel_rfl) ⟨⟨_,Tryz.func209,by kernel_rfl,by kernel_rfl⟩,trivial⟩) (by kernel_rfl) akG
theorem akI:aW PK:=(akH).x (by kernel_rfl)
def adW:aS:=⟨169,⟨[(0,.dat ac),(1,.ptr 0 ac 0 [])],ij⟩,⟨[(0,c7)],ij⟩,OM⟩
def agH:ba:=b9 [pA,Ba] [] 1
theorem agF:aW adW:=cc (F:=agH) (fn:=Tryz.f169) (m:=[]) (bG ⟨q0,GX,trivial⟩) Tryz.func169 trivial
end D
open Go Go.X Go.Proofs D
namespace D
def VQ:bA:=dk ⟨[(0,.dat (.list bd)),(7,.dat (.list cQ)),(8,aK),(9,aK)],[]⟩ 0 p0
def JN:aS:=⟨43,⟨[(0,.dat (.list bd)),(1,.dat (.list cQ))],[]⟩,p0,uH⟩
def JO:ba:=b9 [Ja] [(0,VQ.go JY 0)] 0
theorem Xf:bO Tryz.prog (JO).Γ:=bG ⟨Wi,trivial⟩
theorem al7:cm JO Tryz.f43 0 0:=cz (L:=VQ) (b:=BJ) (m:=[]) Xf trivial
theorem Xg:aW JN:=cc (F:=JO) (fn:=Tryz.f43) (m:=cS Tryz.f43 [0]) Xf Tryz.func43 ⟨al7,trivial⟩
def aez:aS:=⟨173,⟨[(0,.dat ac),(1,.ptr 0 bd 0 [])],oB⟩,⟨[(0,c7)],oB⟩,PC⟩
def ahB:ba:=b9 [tz] [] 1
theorem ahS:aW aez:=cc (F:=ahB) (fn:=Tryz.f173) (m:=[]) (bG ⟨ut,trivial⟩) Tryz.func173 trivial
def i8:bA:=⟨⟨[(0,.dat (.list ac)),(1,.fn 173 [] [(.ptr 0 bd 0 [])]),(7,aK),(8,aK)],oB⟩,.ret,⟨[(4,aK)],oB⟩,(.exit 0),⟨[],oB⟩⟩
def abT:aS:=⟨116,⟨[(0,.dat (.list ac)),(1,.fn 173 [] [(.ptr 0 bd 0 [])])],oB⟩,⟨[(0,aK)],oB⟩,Ez⟩
def LU:ba:=b9 [aez] [(0,i8.go L0 1)] 1
theorem ab9:bO Tryz.prog (LU).Γ:=bG ⟨ahS,trivial⟩
theorem ash:cm LU Tryz.f116 0 0:=cz (L:=i8) (b:=yN) (m:=[]) ab9 trivial
theorem asI:aW abT:=cc (F:=LU) (fn:=Tryz.f116) (m:=cS Tryz.f116 [0]) ab9 Tryz.func116 ⟨ash,trivial⟩
def abA:aS:=⟨71,⟨[(0,.dat (.list ac)),(1,.fn 173 [] [(.ptr 0 bd 0 [])])],oB⟩,⟨[(0,c7)],oB⟩,yK⟩
def ar7:ba:=b9 [abT] [] 1
theorem asq:aW abA:=cc (F:=ar7) (fn:=Tryz.f71) (m:=[]) (bG ⟨asI,trivial⟩) Tryz.func71 trivial
def O5:aS:=⟨172,⟨[(0,.dat bd),(1,.ptr 0 (.list ac) 0 [])],[.box 62 (.list ac) (.dat (.list ac))]⟩,⟨[(0,c7)],[.box 62 (.list ac) (.dat (.list ac))]⟩,A8⟩
def aiu:ba:=b9 [abA] [] 1
theorem Sm:aW O5:=cc (F:=aiu) (fn:=Tryz.f172) (m:=[]) (bG ⟨asq,trivial⟩) Tryz.func172 trivial
def abM:bA:=⟨⟨[(0,.own bd 0),(1,.fn 172 [] [(.ptr 1 (.list ac) 0 [])]),(7,aK),(8,aK)],p2⟩,.ret,⟨[(4,aK)],p2⟩,(.exit 0),⟨[],p2⟩⟩
def ace:aS:=⟨219,⟨[(0,.own bd 0),(1,.fn 172 [] [(.ptr 1 (.list ac) 0 [])])],p2⟩,⟨[(0,aK)],p2⟩,ce⟩
def Mh:ba:=b9 [O5] [(0,abM.go Ml 2)] 2
theorem acq:bO Tryz.prog (Mh).Γ:=bG ⟨Sm,trivial⟩
theorem as4:cm Mh Tryz.f219 0 0:=cz (L:=abM) (b:=y8) (m:=[]) acq trivial
theorem atm:aW ace:=cc (F:=Mh) (fn:=Tryz.f219) (m:=cS Tryz.f219 [0]) acq Tryz.func219 ⟨as4,trivial⟩
def abZ:bA:=dk ⟨[(0,.own bd 0),(1,.fn 172 [] [(.ptr 1 (.list ac) 0 [])]),(5,aK),(6,aK)],p2⟩ 0 ⟨[(0,.own bd 0),(5,aK)],p2⟩
def acD:aS:=⟨170,⟨[(0,.own bd 0),(1,.fn 172 [] [(.ptr 1 (.list ac) 0 [])])],p2⟩,⟨[(0,.own bd 2)],[.gone,.box 62 (.list ac) (.dat (.list ac)),.arr 58 bd false]⟩,yU⟩
def L9:ba:=b9 [O5,ace] [(0,abZ.go Md 2)] 2
theorem acI:bO Tryz.prog (L9).Γ:=bG ⟨Sm,atm,trivial⟩
theorem as5:cm L9 Tryz.f170 0 0:=cz (L:=abZ) (b:=va) (m:=[]) acI trivial
theorem as1:aW acD:=cc (F:=L9) (fn:=Tryz.f170) (m:=cS Tryz.f170 [0]) acI Tryz.func170 ⟨as5,trivial⟩
def PO:aS:=⟨137,⟨[(0,.dat (.list bd)),(1,.dat (.list ac))],[]⟩,iU,wT⟩
theorem T7:aW PO:=bR (l:=[vi,acD]) Tryz.func137 ⟨EE,as1,trivial⟩
def N2:Shape:=⟨[(0,.yld 1013600 0),(1,.dat bd)],[.loop 1013600 [(12,.ptr 1 (.list bd) 0 [])],.box 64 (.list bd) (.own bd 2),.arr 58 bd false]⟩
def N3:Shape:=⟨[(0,c7)],[.loop 1013600 [(12,.ptr 1 (.list bd) 0 [])],.box 64 (.list bd) (.own bd 3),.gone,.arr 58 bd false]⟩
def adn:aS:=⟨1013600,N2,N3,ES⟩
def ado:ba:=b9 [] [] 3
theorem aup (s:N2.ty.den): @Eq (Option N3.ty.den) (qf ado e0 1013600 (iI Tryz.f136 0) N2 N3 s).val (ES s):=by kernel_rfl
theorem auq:aW adn:=
  CR (F:=ado) (c:=iI Tryz.f136 0) dI (bG trivial) dS (by kernel_rfl) (by kernel_rfl) (by kernel_rfl) (m:=[]) (by kernel_rfl) trivial (by kernel_rfl) aup
def i9:bA:=⟨⟨[(0,.own ac 0),(1,.fn 169 [] [(.ptr 1 ac 0 [])]),(7,aK),(8,aK)],rX⟩,.ret,⟨[(4,aK)],rX⟩,(.exit 0),⟨[],rX⟩⟩
def abU:aS:=⟨116,⟨[(0,.own ac 0),(1,.fn 169 [] [(.ptr 1 ac 0 [])])],rX⟩,⟨[(0,aK)],rX⟩,EA⟩
def LV:ba:=b9 [adW] [(0,i9.go L1 2)] 2
theorem aca:bO Tryz.prog (LV).Γ:=bG ⟨agF,trivial⟩
theorem asi:cm LV Tryz.f116 0 0:=cz (L:=i9) (b:=yO) (m:=[]) aca trivial
theorem asJ:aW abU:=cc (F:=LV) (fn:=Tryz.f116) (m:=cS Tryz.f116 [0]) aca Tryz.func116 ⟨asi,trivial⟩
def abB:aS:=⟨71,⟨[(0,.own ac 0),(1,.fn 169 [] [(.ptr 1 ac 0 [])])],rX⟩,⟨[(0,c7)],rX⟩,yL⟩
def ar8:ba:=b9 [abU] [] 2
theorem asr:aW abB:=cc (F:=ar8) (fn:=Tryz.f71) (m:=[]) (bG ⟨asJ,trivial⟩) Tryz.func71 trivial
def vo:bA:=⟨⟨[(0,.yld 1013600 0),(1,.ptr 1 .opq 0 []),(41,.own bd 8),(42,aK),(43,aK)],[.loop 1013600 [(12,.ptr 5 (.list bd) 0 [])],.box 141 .opq (.ptr 6 eR 0 []),.box 3 (.int .i64) aK,.box 39 ac (.dat ac),.box 62 (.list ac) (.dat (.list ac)),.box 64 (.list bd) (.own bd 9),.box 143 eR kW,.gone,.arr 58 bd false,.arr 58 bd false]⟩,.ret,Hi,(.exit 0),Hi⟩
def Oj:Shape:=⟨[(0,.yld 1013600 0),(1,.ptr 1 .opq 0 []),(2,.ptr 2 (.int .i64) 0 []),(3,.ptr 3 ac 0 []),(4,.ptr 4 (.list ac) 0 [])],[.loop 1013600 [(12,.ptr 5 (.list bd) 0 [])],.box 141 .opq (.ptr 6 eR 0 []),.box 3 (.int .i64) aK,.box 39 ac (.dat ac),.box 62 (.list ac) (.dat (.list ac)),.box 64 (.list bd) (.own bd 7),.box 143 eR kW,.arr 58 bd false]⟩
def Ol:Shape:=Hi
def Oi (cq:(bq×ah×(List ah)×bN×Int×Unit)->Option ((List ak)×bN×Int×Unit)):aS:=⟨135,Oj,Ol,qs cq⟩
def zh (cq:(bq×ah×(List ah)×bN×Int×Unit)->Option ((List ak)×bN×Int×Unit)):ba:=b9 [q9,q3,(nQ cq),JN,PO,adn] [(0,vo.go (vn cq) 8)] 8
theorem auB (cq:(bq×ah×(List ah)×bN×Int×Unit)->Option ((List ak)×bN×Int×Unit)) (s:vo.S.ty.den): @Eq (Option (vo.S.ty.den⊕vo.Out)) (vo.body (zh cq) (ip (bK Tryz.f135) 0) 0 s).val (qt cq s):=by kernel_rfl
theorem agu (cq:(bq×ah×(List ah)×bN×Int×Unit)->Option ((List ak)×bN×Int×Unit)) (s:Oj.ty.den): @Eq (Option Ol.ty.den) (k5 (zh cq) Tryz.f135 Oj Ol s).val (qs cq s):=by kernel_rfl
theorem rx (cq:(bq×ah×(List ah)×bN×Int×Unit)->Option ((List ak)×bN×Int×Unit)) (iS:ck Tryz.prog (nQ cq)):bO Tryz.prog (zh cq).Γ:=bG ⟨un,wO,(iS.x (by kernel_rfl)),Xg,T7,auq,trivial⟩
theorem auF (cq:(bq×ah×(List ah)×bN×Int×Unit)->Option ((List ak)×bN×Int×Unit)) (iS:ck Tryz.prog (nQ cq)):fT Tryz.prog (zh cq) Tryz.f135.ntmps 0 (ip (bK Tryz.f135) 0):=
  rH dI (rx cq iS) dS (L:=vo) (f:=vn cq) (b:=qt cq) (m:=[]) (fun _=>rfl) (by kernel_rfl) (by kernel_rfl) trivial (by kernel_rfl) (dW _ (by kernel_rfl)) (auB cq)
theorem agv (cq:(bq×ah×(List ah)×bN×Int×Unit)->Option ((List ak)×bN×Int×Unit)) (iS:ck Tryz.prog (nQ cq)):ck Tryz.prog (Oi cq):=
  rG (F:=(zh cq)) dI (rx cq iS) dS (fn:=Tryz.f135) (m:=cS Tryz.f135 [0]) Tryz.func135 (by kernel_rfl) (by kernel_rfl) (by kernel_rfl) ⟨auF cq iS,trivial⟩ (dW _ (by kernel_rfl)) (by kernel_rfl) (agu cq)
theorem agw (cq:(bq×ah×(List ah)×bN×Int×Unit)->Option ((List ak)×bN×Int×Unit)) (iS:ck Tryz.prog (nQ cq)):oX Tryz.prog (Oi cq):=(agv cq iS).x (by kernel_rfl)
def vp:bA:=dk ⟨[(0,.ptr 0 eR 0 []),(5,.ptr 1 dE 0 []),(6,.ptr 2 ac 0 []),(8,.dat (.list bd)),(9,.own ac 3),(16,.dat (.list ac)),(17,aK),(18,aK)],QJ⟩ 0 ⟨[(0,.ptr 0 eR 0 []),(5,.ptr 1 dE 0 []),(6,.ptr 2 ac 0 []),(8,.dat (.list bd)),(9,.own ac 3)],QJ⟩
def vq:bA:=⟨⟨[(0,.ptr 0 eR 0 []),(5,.ptr 1 dE 0 []),(8,.dat (.list bd)),(9,.own ac 2),(12,.ptr 3 (.list bd) 0 []),(31,.own ac 4),(32,aK),(33,aK)],[.box 143 eR kW,.box 85 dE (.dat dE),.arr 39 ac true,.box 64 (.list bd) (.own bd 5),.arr 39 ac false,.arr 58 bd false]⟩,.ret,⟨[(8,.dat (.list bd))],[.box 143 eR kW]⟩,(.exit 2),⟨[(12,.ptr 1 (.list bd) 0 [])],[.box 143 eR kW,.box 64 (.list bd) (.own bd 2),.arr 58 bd false]⟩⟩
def OF:aS:=⟨136,vv,vw,FJ⟩
def sC (cq:(bq×ah×(List ah)×bN×Int×Unit)->Option ((List ak)×bN×Int×Unit)):ba:={cx:=fV,Γ:=gi [Iu,OG,(nQ cq),PK,abB,(Oi cq)],Λ:=fun k st=>bif Nat.beq k 0 then vp.go (mt cq) 1 st else bif Nat.beq k 2 then vq.go (Fw cq) 1 st else .fail,keep:=fun _=>none,m:=1,rfs:=fun k=>bif Nat.beq k 13 then some 1013600 else none,its:=[135]}
theorem agA (cq:(bq×ah×(List ah)×bN×Int×Unit)->Option ((List ak)×bN×Int×Unit)) (s:vp.S.ty.den): @Eq (Option (vp.S.ty.den⊕vp.Out)) (vp.body (sC cq) (ip (bK Tryz.f136) 0) 0 s).val (vy cq s):=by kernel_rfl
theorem agB (cq:(bq×ah×(List ah)×bN×Int×Unit)->Option ((List ak)×bN×Int×Unit)) (s:vq.S.ty.den): @Eq (Option (vq.S.ty.den⊕vq.Out)) (vq.body (sC cq) (ip (bK Tryz.f136) 1) 2 s).val (sF cq s):=by kernel_rfl
theorem agX (cq:(bq×ah×(List ah)×bN×Int×Unit)->Option ((List ak)×bN×Int×Unit)) (s:vv.ty.den): @Eq (Option vw.ty.den) (k5 (sC cq) Tryz.f136 vv vw s).val (ii cq s):=by kernel_rfl
theorem OE (cq:(bq×ah×(List ah)×bN×Int×Unit)->Option ((List ak)×bN×Int×Unit)) (iS:ck Tryz.prog (nQ cq)):bO Tryz.prog (sC cq).Γ:=bG ⟨UT,aec,(iS.x (by kernel_rfl)),akI,asr,(agw cq iS),trivial⟩
theorem agT (cq:(bq×ah×(List ah)×bN×Int×Unit)->Option ((List ak)×bN×Int×Unit)) (iS:ck Tryz.prog (nQ cq)):fT Tryz.prog (sC cq) Tryz.f136.ntmps 0 (ip (bK Tryz.f136) 0):=
  rH dI (OE cq iS) dS (L:=vp) (f:=mt cq) (b:=vy cq) (m:=[]) (fun _=>rfl) (by kernel_rfl) (by kernel_rfl) trivial (by kernel_rfl) (dW _ (by kernel_rfl)) (agA cq)
theorem agU (cq:(bq×ah×(List ah)×bN×Int×Unit)->Option ((List ak)×bN×Int×Unit)) (iS:ck Tryz.prog (nQ cq)):fT Tryz.prog (sC cq) Tryz.f136.ntmps 2 (ip (bK Tryz.f136) 1):=
  rH dI (OE cq iS) dS (L:=vq) (f:=Fw cq) (b:=sF cq) (m:=[]) (fun _=>rfl) (by kernel_rfl) (by kernel_rfl) trivial (by kernel_rfl) (yd (m:=[(13,iI Tryz.f136 0)]) (its:=[135]) (by kernel_rfl) ⟨yn (Y:=1013600) (by kernel_rfl) (by kernel_rfl),trivial⟩ (by kernel_rfl) ⟨⟨_,Tryz.func135,by kernel_rfl,by kernel_rfl⟩,trivial⟩) (agB cq)
theorem agt (cq:(bq×ah×(List ah)×bN×Int×Unit)->Option ((List ak)×bN×Int×Unit)) (iS:ck Tryz.prog (nQ cq)):ck Tryz.prog ⟨136,vv,vw,ii cq⟩:=
  rG (F:=(sC cq)) dI (OE cq iS) dS (fn:=Tryz.f136) (m:=cS Tryz.f136 [0,2]) Tryz.func136 (by kernel_rfl) (by kernel_rfl) (by kernel_rfl) ⟨agT cq iS,agU cq iS,trivial⟩ (yd (m:=[(13,iI Tryz.f136 0)]) (its:=[135]) (by kernel_rfl) ⟨yn (Y:=1013600) (by kernel_rfl) (by kernel_rfl),trivial⟩ (by kernel_rfl) ⟨⟨_,Tryz.func135,by kernel_rfl,by kernel_rfl⟩,trivial⟩) (by kernel_rfl) (agX cq)
theorem adB: ∀n,ck Tryz.prog ⟨136,vv,vw,o1 n⟩
  |0=>Dl
  |n+1=>agt _ (adB n)
theorem agY:ck Tryz.prog OF:=adB jV
theorem agZ:aW OF:=(agY).x (by kernel_rfl)
def Oy:Shape:=⟨[(0,.yld 1002700 0),(1,.dat bd)],[.loop 1002700 [(7,.ptr 1 (.list bd) 0 [])],.box 64 (.list bd) (.own bd 2),.arr 58 bd false]⟩
def Oz:Shape:=⟨[(0,c7)],[.loop 1002700 [(7,.ptr 1 (.list bd) 0 [])],.box 64 (.list bd) (.own bd 3),.gone,.arr 58 bd false]⟩
def adR:aS:=⟨1002700,Oy,Oz,FB⟩
def adS:ba:=b9 [] [] 3
theorem agR (s:Oy.ty.den): @Eq (Option Oz.ty.den) (qf adS e0 1002700 (iI Tryz.f27 0) Oy Oz s).val (FB s):=by kernel_rfl
theorem agS:aW adR:=
  CR (F:=adS) (c:=iI Tryz.f27 0) dI (bG trivial) dS (by kernel_rfl) (by kernel_rfl) (by kernel_rfl) (m:=[]) (by kernel_rfl) trivial (by kernel_rfl) agR
def adH:bA:=⟨⟨[(0,.yld 1002700 0),(1,.ptr 1 .opq 0 []),(41,.own bd 7),(42,aK),(43,aK)],[.loop 1002700 [(7,.ptr 5 (.list bd) 0 [])],.box 141 .opq (.ptr 6 eR 0 []),.box 3 (.int .i64) aK,.box 39 ac (.dat ac),.box 62 (.list ac) (.dat (.list ac)),.box 64 (.list bd) (.own bd 8),.box 143 eR kW,.arr 58 bd false,.arr 58 bd false]⟩,.ret,Hj,(.exit 0),Hj⟩
def adX:aS:=⟨135,⟨[(0,.yld 1002700 0),(1,.ptr 1 .opq 0 []),(2,.ptr 2 (.int .i64) 0 []),(3,.ptr 3 ac 0 []),(4,.ptr 4 (.list ac) 0 [])],[.loop 1002700 [(7,.ptr 5 (.list bd) 0 [])],.box 141 .opq (.ptr 6 eR 0 []),.box 3 (.int .i64) aK,.box 39 ac (.dat ac),.box 62 (.list ac) (.dat (.list ac)),.box 64 (.list bd) (.nils 58 bd),.box 143 eR kW]⟩,Hj,sE⟩
def Ov:ba:=b9 [q9,q3,JN,PO,OF,adR] [(0,adH.go vr 7)] 7
theorem adP:bO Tryz.prog (Ov).Γ:=bG ⟨un,wO,Xg,T7,agZ,agS,trivial⟩
theorem agC:cm Ov Tryz.f135 0 0:=cz (L:=adH) (b:=sB) (m:=[]) adP trivial
theorem agM:aW adX:=cc (F:=Ov) (fn:=Tryz.f135) (m:=cS Tryz.f135 [0]) adP Tryz.func135 ⟨agC,trivial⟩
def tn:Shape:=⟨[(0,.dat iq),(1,.dat ac)],[]⟩
def tp:Shape:=⟨[(0,.own bd 0),(1,aK)],mg⟩
def Ji:aS:=⟨27,tn,tp,jc⟩
def VO:ba:={cx:=fV,Γ:=gi [OG,adX],Λ:=fun k st=>.fail,keep:=fun _=>none,m:=0,rfs:=fun k=>bif Nat.beq k 4 then some 1002700 else none,its:=[135]}
theorem alH (s:tn.ty.den): @Eq (Option tp.ty.den) (k5 VO Tryz.f27 tn tp s).val (jc s):=by kernel_rfl
theorem Wq:ck Tryz.prog Ji:=
  rG (F:=VO) dI (bG ⟨aec,agM,trivial⟩) dS (fn:=Tryz.f27) (m:=[]) Tryz.func27 (by kernel_rfl) (by kernel_rfl) (by kernel_rfl) trivial (yd (m:=[(4,iI Tryz.f27 0)]) (its:=[135]) (by kernel_rfl) ⟨yn (Y:=1002700) (by kernel_rfl) (by kernel_rfl),trivial⟩ (by kernel_rfl) ⟨⟨_,Tryz.func135,by kernel_rfl,by kernel_rfl⟩,trivial⟩) (by kernel_rfl) alH
theorem ama:aW Ji:=(Wq).x (by kernel_rfl)
def SE:bA:=⟨⟨[(0,.dat (.list bd)),(1,.dat (.list bd)),(5,aK)],[]⟩,.ret,xu,(.exit 0),⟨[],[]⟩⟩
def AQ:Shape:=QO
def AS:Shape:=dG
def IA:aS:=⟨29,AQ,AS,tI⟩
def IK:ba:=b9 [] [(0,SE.go Ii 0)] 0
theorem Vx:bO Tryz.prog (IK).Γ:=bG trivial
theorem aj5:cm IK Tryz.f29 0 0:=cz (L:=SE) (b:=AV) (m:=[]) Vx trivial
theorem Vy:ck Tryz.prog IA:=nD (F:=IK) (fn:=Tryz.f29) (m:=cS Tryz.f29 [0]) Vx Tryz.func29 ⟨aj5,trivial⟩
theorem akt:aW IA:=Vy.x (by kernel_rfl)
def wv:Shape:=⟨[(0,.dat c8),(1,aK),(2,.dat ac),(3,aK)],[]⟩
def wy:Shape:=hd
def Ga (eU:(bN×Int×ah×Int×Unit)->Option (Int×Unit)):aS:=⟨91,wv,wy,eU⟩
def aeP:bA:=⟨⟨[(9,.own hv 0),(10,aK),(11,aK)],[.arr 93 hv false]⟩,.ret,oC,(.exit 0),⟨[],[]⟩⟩
def RF:aS:=⟨182,ub,dG,Vg⟩
def O6:ba:=b9 [] [(0,aeP.go RX 0)] 0
theorem RW:bO Tryz.prog (O6).Γ:=bG trivial
theorem ahT:cm O6 Tryz.f182 0 0:=cz (L:=aeP) (b:=RV) (m:=[]) RW trivial
theorem ah8:aW RF:=cc (F:=O6) (fn:=Tryz.f182) (m:=cS Tryz.f182 [0]) RW Tryz.func182 ⟨ahT,trivial⟩
def Sk:bA:=⟨⟨[(0,.dat (.list bd)),(3,aK)],[]⟩,.ret,oC,(.exit 0),⟨[],[]⟩⟩
def Te:aS:=⟨180,p0,dG,WY⟩
def P9:ba:=b9 [] [(0,Sk.go Ui 0)] 0
theorem Uh:bO Tryz.prog (P9).Γ:=bG trivial
theorem aiN:cm P9 Tryz.f180 0 0:=cz (L:=Sk) (b:=Ug) (m:=[]) Uh trivial
theorem ajQ:aW Te:=cc (F:=P9) (fn:=Tryz.f180) (m:=cS Tryz.f180 [0]) Uh Tryz.func180 ⟨aiN,trivial⟩
def RE:aS:=⟨179,Cb,dG,Vf⟩
theorem ah7:aW RE:=bR (l:=[]) Tryz.func179 trivial
def So:aS:=⟨178,⟨[(0,.dat bd),(1,.ptr 0 ac 0 [])],ij⟩,⟨[(0,c7)],ij⟩,Wm⟩
def aiV:ba:=b9 [tz,RE] [] 1
theorem ai4:aW So:=cc (F:=aiV) (fn:=Tryz.f178) (m:=[]) (bG ⟨ut,ah7,trivial⟩) Tryz.func178 trivial
end D
open Go Go.X Go.Proofs D
namespace D
def i6:bA:=⟨⟨[(0,.dat (.list bd)),(1,.fn 178 [] [(.ptr 0 ac 0 [])]),(7,aK),(8,aK)],ij⟩,.ret,⟨[(4,aK)],ij⟩,(.exit 0),⟨[],ij⟩⟩
def abR:aS:=⟨219,⟨[(0,.dat (.list bd)),(1,.fn 178 [] [(.ptr 0 ac 0 [])])],ij⟩,⟨[(0,aK)],ij⟩,acr⟩
def LR:ba:=b9 [So] [(0,i6.go ab7 1)] 1
theorem ab6:bO Tryz.prog (LR).Γ:=bG ⟨ai4,trivial⟩
theorem asf:cm LR Tryz.f219 0 0:=cz (L:=i6) (b:=ab5) (m:=[]) ab6 trivial
theorem asG:aW abR:=cc (F:=LR) (fn:=Tryz.f219) (m:=cS Tryz.f219 [0]) ab6 Tryz.func219 ⟨asf,trivial⟩
def abQ:aS:=⟨181,⟨[(0,.dat (.list bd)),(1,.fn 178 [] [(.ptr 0 ac 0 [])])],ij⟩,⟨[(0,c7)],ij⟩,acp⟩
def asC:ba:=b9 [abR] [] 1
theorem asF:aW abQ:=cc (F:=asC) (fn:=Tryz.f181) (m:=[]) (bG ⟨asG,trivial⟩) Tryz.func181 trivial
def F8:aS:=⟨321,e9,rY,Ib⟩
theorem RS:aW F8:=bR (l:=[]) Tryz.func321 trivial
def Gf:aS:=⟨334,e9,rY,H6⟩
theorem RN:aW Gf:=bR (l:=[]) Tryz.func334 trivial
def FT:aS:=⟨345,e9,rY,PV⟩
theorem Rl:aW FT:=bR (l:=[]) Tryz.func345 trivial
def FW:aS:=⟨352,e9,⟨h7,cb⟩,PX⟩
theorem Ro:aW FW:=bR (l:=[nT]) Tryz.func352 ⟨px,trivial⟩
def FK:aS:=⟨362,e9,⟨h7,cb⟩,Pq⟩
theorem aeH:aW FK:=bR (l:=[nT]) Tryz.func362 ⟨px,trivial⟩
def FE:aS:=⟨368,e9,⟨h7,cb⟩,Pv⟩
theorem aeN:aW FE:=bR (l:=[]) Tryz.func368 trivial
def VB:aS:=⟨187,e9,rY,pL⟩
noncomputable def akX:ba:=ko fV (Cs fV (gi [F8,Gf,FT,FW,FK,FE]) 110 Tryz.f110 (gi [F8,Gf,FT,FW,FK,FE])) (fun k st=>.fail) 0
theorem alc:aW VB:=cc (F:=akX) (fn:=Tryz.f187) (m:=[]) (CQ (by kernel_rfl) (C2 (F:=(ko fV (gi [F8,Gf,FT,FW,FK,FE]) (fun _ _=>.fail) 0)) dI (bG ⟨RS,RN,Rl,Ro,aeH,aeN,trivial⟩) dS Tryz.func110 (by kernel_rfl) (by kernel_rfl) (by kernel_rfl)) (bG ⟨RS,RN,Rl,Ro,aeH,aeN,trivial⟩)) Tryz.func187 trivial
def Tb:aS:=⟨184,xn,dG,WW⟩
theorem ajJ:aW Tb:=bR (l:=[Fz,pA,tz]) Tryz.func184 ⟨ON,q0,ut,trivial⟩
def Ph:aS:=⟨183,⟨[(0,.dat ac),(1,.ptr 0 ac 0 [])],ij⟩,⟨[(0,c7)],ij⟩,I0⟩
def aiW:ba:=b9 [Tb] [] 1
theorem SQ:aW Ph:=cc (F:=aiW) (fn:=Tryz.f183) (m:=[]) (bG ⟨ajJ,trivial⟩) Tryz.func183 trivial
def abn:bA:=⟨⟨[(0,.dat (.list ac)),(1,.fn 183 [] [(.ptr 0 ac 0 [])]),(7,aK),(8,aK)],ij⟩,.ret,⟨[(4,aK)],ij⟩,(.exit 0),⟨[],ij⟩⟩
def abV:aS:=⟨116,⟨[(0,.dat (.list ac)),(1,.fn 183 [] [(.ptr 0 ac 0 [])])],ij⟩,⟨[(0,aK)],ij⟩,acw⟩
def LW:ba:=b9 [Ph] [(0,abn.go abE 1)] 1
theorem acd:bO Tryz.prog (LW).Γ:=bG ⟨SQ,trivial⟩
theorem asj:cm LW Tryz.f116 0 0:=cz (L:=abn) (b:=acb) (m:=[]) acd trivial
theorem asK:aW abV:=cc (F:=LW) (fn:=Tryz.f116) (m:=cS Tryz.f116 [0]) acd Tryz.func116 ⟨asj,trivial⟩
def abC:aS:=⟨71,⟨[(0,.dat (.list ac)),(1,.fn 183 [] [(.ptr 0 ac 0 [])])],ij⟩,⟨[(0,c7)],ij⟩,jp⟩
def ar9:ba:=b9 [abV] [] 1
theorem ass:aW abC:=cc (F:=ar9) (fn:=Tryz.f71) (m:=[]) (bG ⟨asK,trivial⟩) Tryz.func71 trivial
def abo:bA:=⟨⟨[(0,.own ac 0),(1,.fn 183 [] [(.ptr 1 ac 0 [])]),(7,aK),(8,aK)],rW⟩,.ret,⟨[(4,aK)],rW⟩,(.exit 0),⟨[],rW⟩⟩
def abW:aS:=⟨116,⟨[(0,.own ac 0),(1,.fn 183 [] [(.ptr 1 ac 0 [])])],rW⟩,⟨[(0,aK)],rW⟩,acx⟩
def LX:ba:=b9 [Ph] [(0,abo.go abH 2)] 2
theorem abG:bO Tryz.prog (LX).Γ:=bG ⟨SQ,trivial⟩
end D
