import Derived.Test.YtmmmpanpbphkdaaGreatDoorEa
set_option linter.unusedVariables false
set_option maxRecDepth 100000
open Go Go.X Go.Proofs D
namespace D
def QN:a8:=bW [rv,rj] [(0,Tj.go VE 0)] 0
theorem VD:bL Tryz.prog (QN).Γ:=bE ⟨xd,w1,trivial⟩
theorem akC:cg QN Tryz.f17 0 0:=cm (L:=Tj) (b:=VC) (m:=[]) VD trivial
theorem amD:cc Tryz.prog akG:=nJ (F:=QN) (fn:=Tryz.f17) (m:=cK Tryz.f17 [0]) VD Tryz.func17 ⟨akC,trivial⟩
def A2:Shape:=⟨[],[]⟩
def A4:Shape:=xR
def akF:aS:=⟨80,A2,A4,Kr⟩
def ald:a8:=mm [JE,IW]
theorem ala:cc Tryz.prog akF:=nJ (F:=ald) (fn:=Tryz.f80) (m:=[]) (bE ⟨Xs,WS,trivial⟩) Tryz.func80 trivial
def Pj:aS:=⟨85,⟨[(0,.ptr 0 eR 0 []),(1,aI),(2,.dat ac),(3,.dat (.list ac))],[.box 143 eR k3]⟩,⟨[(0,.fn 135 [] [(.ptr 1 .opq 0 []),(.ptr 2 (.int .i64) 0 []),(.ptr 3 ac 0 []),(.ptr 4 (.list ac) 0 [])])],[.box 143 eR k3,.box 141 .opq (.ptr 0 eR 0 []),.box 3 (.int .i64) aI,.box 39 ac (.dat ac),.box 62 (.list ac) (.dat (.list ac))]⟩,pa⟩
def aix:a8:=bW [] [] 1
theorem wt:aV Pj:=ca (F:=aix) (fn:=Tryz.f85) (m:=[]) (bE trivial) Tryz.func85 trivial
def vy:Shape:=⟨[(0,.ptr 0 eR 0 []),(1,.dat dp),(2,.dat ac),(3,.dat (.list ac))],[.box 143 eR k3]⟩
def vz:Shape:=⟨[(0,.dat (.list ba))],[.box 143 eR k3]⟩
def nW (cv:(bs×ah×(List ah)×bO×Int×Unit)->Option ((List ak)×bO×Int×Unit)):aS:=⟨136,vy,vz,cv⟩
def OT:aS:=⟨234,r4,⟨ig,cd⟩,Fb⟩
def ave:a8:=kx fV (gl []) (fun _ _=>.fail) 0
theorem avk:cc Tryz.prog OT:=
  Zy (F:=ave) dE (bE trivial) dN (fn:=Tryz.f234) Tryz.func234 (by kernel_rfl) (by kernel_rfl) (by kernel_rfl) (by kernel_rfl) (by kernel_rfl) (fun s=>(decide ((List.length ([]:List ah)+List.length s.1)*32<=bm))) (fun s=>(s.1,())) (fun s=>([],())) (fun s=>List.length s.1) (fun s=>rfl) (fun s=>by kernel_rfl) (fun s=>by kernel_rfl) (fun s h=>congrArg (fun l=>(l,())) (List.eq_nil_of_length_eq_zero h).symm)
theorem avl:aV OT:=avk.x (by kernel_rfl)
def i6:bq:=⟨⟨[(0,.own ac 0),(1,.fn 74 [] []),(7,aI),(8,aI)],cd⟩,.ret,⟨[(4,aI)],cd⟩,(.exit 0),⟨[],cd⟩⟩
def ac0:aS:=⟨116,⟨[(0,.own ac 0),(1,.fn 74 [] [])],cd⟩,⟨[(0,aI)],cd⟩,ve⟩
def MB:a8:=bW [pF] [(0,i6.go MH 1)] 1
theorem adi:bL Tryz.prog (MB).Γ:=bE ⟨rh,trivial⟩
theorem at4:cg MB Tryz.f116 0 0:=cm (L:=i6) (b:=zh) (m:=[]) adi trivial
theorem atP:aV ac0:=ca (F:=MB) (fn:=Tryz.f116) (m:=cK Tryz.f116 [0]) adi Tryz.func116 ⟨at4,trivial⟩
def ac8:bq:=c4 ⟨[(0,.own ac 0),(1,.fn 74 [] []),(5,aI),(6,aI)],cd⟩ 0 ⟨[(0,.own ac 0),(5,aI)],cd⟩
def adM:aS:=⟨233,⟨[(0,.own ac 0),(1,.fn 74 [] [])],cd⟩,⟨[(0,.own ac 1)],[.gone,.arr 39 ac false]⟩,zt⟩
def MS:a8:=bW [pF,ac0] [(0,ac8.go MW 1)] 1
theorem kw:bL Tryz.prog (MS).Γ:=bE ⟨rh,atP,trivial⟩
theorem aui:cg MS Tryz.f233 0 0:=cm (L:=ac8) (b:=vd) (m:=[]) kw trivial
theorem rt:aV adM:=ca (F:=MS) (fn:=Tryz.f233) (m:=cK Tryz.f233 [0]) kw Tryz.func233 ⟨aui,trivial⟩
def afJ:aS:=⟨269,HV,hg,Qp⟩
theorem ajp:aV afJ:=bP (l:=[]) Tryz.func269 trivial
def P5:aS:=⟨252,HV,hg,wW⟩
theorem Tn:aV P5:=bP (l:=[afJ]) Tryz.func252 ⟨ajp,trivial⟩
def vl:Shape:=⟨Cl,cd⟩
def vm:Shape:=⟨[],cd⟩
def qx (bT:(Int×Int×Int×(List ah)×Unit)->Option ((List ah)×Unit)):aS:=⟨251,vl,vm,bT⟩
def wd:aS:=⟨237,hZ,hg,Gc⟩
theorem aiy:aV wd:=bP (l:=[Py]) Tryz.func237 ⟨afz,trivial⟩
def q8:aS:=⟨236,xK,hg,jJ⟩
theorem tw:aV q8:=bP (l:=[wd]) Tryz.func236 ⟨aiy,trivial⟩
def acD:bq:=c4 ⟨[(0,.own ac 0),(1,aI),(2,aI),(3,.fn 236 [] []),(8,aI),(9,aI)],cd⟩ 2 ⟨[(0,.own ac 0),(1,aI),(2,aI),(3,.fn 236 [] []),(8,aI)],cd⟩
def acC:bq:=c4 ⟨[(0,.own ac 0),(1,aI),(2,aI),(3,.fn 236 [] []),(8,aI)],cd⟩ 0 ⟨[],cd⟩
def acT:aS:=⟨260,⟨uh,cd⟩,⟨[],cd⟩,EL⟩
def EZ:a8:=bW [q8] [(2,acD.go E0 1),(0,acC.go M8 1)] 1
theorem M7:bL Tryz.prog (EZ).Γ:=bE ⟨tw,trivial⟩
theorem acR:cg EZ Tryz.f260 2 1:=cm (L:=acD) (b:=vb) (m:=[]) M7 trivial
theorem atW:cg EZ Tryz.f260 0 0:=cm (L:=acC) (b:=zA) (m:=[(2,fP (bJ Tryz.f260) 1)]) M7 ⟨acR,trivial⟩
theorem aul:aV acT:=ca (F:=EZ) (fn:=Tryz.f260) (m:=cK Tryz.f260 [0,2]) M7 Tryz.func260 ⟨atW,acR,trivial⟩
def ad6:bq:=⟨⟨[(0,.own ac 0),(2,aI),(3,aI),(4,.fn 236 [] []),(10,aI)],cd⟩,(.exit 0),⟨[],cd⟩,.ret,⟨[],cd⟩⟩
def aei:aS:=⟨283,⟨Cl,cd⟩,⟨[],cd⟩,zF⟩
def Nj:a8:=bW [q8] [(0,ad6.go OP 1)] 1
theorem aem:bL Tryz.prog (Nj).Γ:=bE ⟨tw,trivial⟩
theorem au9:cg Nj Tryz.f283 0 0:=cm (L:=ad6) (b:=sL) (m:=[]) aem trivial
theorem avs:aV aei:=ca (F:=Nj) (fn:=Tryz.f283) (m:=cK Tryz.f283 [0]) aem Tryz.func283 ⟨au9,trivial⟩
def li:bq:=c4 ⟨[(0,.own ac 0),(3,.fn 236 [] []),(8,aI),(9,aI),(10,aI),(11,aI)],cd⟩ 0 ⟨[(0,.own ac 0),(3,.fn 236 [] []),(8,aI),(9,aI),(10,aI)],cd⟩
def ad4:bq:=c4 ⟨[(0,.own ac 0),(3,.fn 236 [] []),(8,aI),(9,aI),(12,aI)],cd⟩ 2 ⟨[],cd⟩
def aeh:aS:=⟨261,⟨uh,cd⟩,⟨[],cd⟩,Fg⟩
def EX:a8:=bW [aei] [(0,li.go NC 1),(2,ad4.go OO 1)] 1
theorem Ny:bL Tryz.prog (EX).Γ:=bE ⟨avs,trivial⟩
theorem au6:cg EX Tryz.f261 0 0:=cm (L:=li) (b:=zw) (m:=[]) Ny trivial
theorem au7:cg EX Tryz.f261 2 1:=cm (L:=ad4) (b:=zx) (m:=[]) Ny trivial
theorem avr:aV aeh:=ca (F:=EX) (fn:=Tryz.f261) (m:=cK Tryz.f261 [0,2]) Ny Tryz.func261 ⟨au6,au7,trivial⟩
def aef:aS:=⟨296,⟨[(0,.own ac 0),(1,aI),(2,aI),(3,.ptr 1 (.int .i64) 0 []),(4,.fn 236 [] [])],uk⟩,⟨[(0,aI),(1,aI)],uk⟩,vj⟩
def avz:a8:=bW [q8] [] 2
theorem avu:aV aef:=ca (F:=avz) (fn:=Tryz.f296) (m:=[]) (bE ⟨tw,trivial⟩) Tryz.func296 trivial
def OU:aS:=⟨287,⟨[(0,.own ac 0),(1,aI),(2,aI),(3,aI),(4,.ptr 1 (.int .i64) 0 []),(5,.fn 236 [] [])],uk⟩,⟨[(0,aI)],uk⟩,zD⟩
def avy:a8:=bW [aef] [] 2
theorem aeq:aV OU:=ca (F:=avy) (fn:=Tryz.f287) (m:=[]) (bE ⟨avu,trivial⟩) Tryz.func287 trivial
def ac5:aS:=⟨286,⟨[(0,.own ac 0),(1,aI),(2,.ptr 1 (.int .i64) 0 []),(3,.fn 236 [] [])],uk⟩,⟨[(0,aI)],uk⟩,vf⟩
def atL:a8:=bW [OU] [] 2
theorem atX:aV ac5:=ca (F:=atL) (fn:=Tryz.f286) (m:=[]) (bE ⟨aeq,trivial⟩) Tryz.func286 trivial
def ads:aS:=⟨263,⟨uh,cd⟩,⟨[(0,aI),(1,aI)],cd⟩,EY⟩
def auq:a8:=bW [OU,ac5] [] 1
theorem auY:aV ads:=ca (F:=auq) (fn:=Tryz.f263) (m:=[]) (bE ⟨aeq,atX,trivial⟩) Tryz.func263 trivial
def ada:bq:=c4 ⟨[(0,.own ac 0),(8,aI),(9,aI)],cd⟩ 0 ⟨[],cd⟩
def adO:aS:=⟨264,⟨uh,cd⟩,⟨[],cd⟩,zv⟩
def MU:a8:=bW [] [(0,ada.go MX 1)] 1
theorem ado:bL Tryz.prog (MU).Γ:=bE trivial
theorem aum:cg MU Tryz.f264 0 0:=cm (L:=ada) (b:=zC) (m:=[]) ado trivial
theorem auz:aV adO:=ca (F:=MU) (fn:=Tryz.f264) (m:=cK Tryz.f264 [0]) ado Tryz.func264 ⟨aum,trivial⟩
end D
open Go Go.X Go.Proofs D
namespace D
def abl:bq:=c4 ⟨xN,cd⟩ 2 ⟨xN,cd⟩
def gc:bq:=c4 ⟨[(0,.own ac 0),(1,aI),(2,aI),(3,.fn 236 [] []),(9,aI),(10,aI),(11,aI)],cd⟩ 4 ⟨xN,cd⟩
def abm:bq:=c4 ⟨[(0,.own ac 0),(1,aI),(2,aI),(3,.fn 236 [] []),(9,aI),(10,aI),(12,aI)],cd⟩ 6 ⟨xN,cd⟩
def abj:bq:=⟨⟨xN,cd⟩,.ret,⟨[(8,cX)],cd⟩,(.exit 0),⟨[],cd⟩⟩
def abi:aS:=⟨265,⟨uh,cd⟩,⟨[(0,cX)],cd⟩,zb⟩
def uD:a8:=bW [q8] [(2,abl.go EH 1),(4,gc.go EI 1),(6,abm.go co 1),(0,abj.go Mw 1)] 1
theorem za:bL Tryz.prog (uD).Γ:=bE ⟨tw,trivial⟩
theorem abo:cg uD Tryz.f265 2 1:=cm (L:=abl) (b:=zj) (m:=[]) za trivial
theorem abp:cg uD Tryz.f265 4 2:=cm (L:=gc) (b:=zk) (m:=[]) za trivial
theorem abq:cg uD Tryz.f265 6 3:=cm (L:=abm) (b:=zl) (m:=[]) za trivial
theorem nl:cg uD Tryz.f265 0 0:=cm (L:=abj) (b:=bv) (m:=[(2,fP (bJ Tryz.f265) 1),(4,fP (bJ Tryz.f265) 2),(6,fP (bJ Tryz.f265) 3)]) za ⟨abo,abp,abq,trivial⟩
theorem atp:aV abi:=ca (F:=uD) (fn:=Tryz.f265) (m:=cK Tryz.f265 [0,2,4,6]) za Tryz.func265 ⟨nl,abo,abp,abq,trivial⟩
def acz:bq:=c4 ⟨xI,cd⟩ 2 ⟨xI,cd⟩
def acA:bq:=c4 ⟨xI,cd⟩ 4 ⟨xI,cd⟩
def acy:bq:=c4 ⟨xI,cd⟩ 0 ⟨[(11,aI)],cd⟩
def ac6:aS:=⟨266,⟨Cl,cd⟩,⟨[(0,aI)],cd⟩,zo⟩
def zd:a8:=bW [q8] [(2,acz.go MK 1),(4,acA.go ML 1),(0,acy.go EF 1)] 1
theorem EE:bL Tryz.prog (zd).Γ:=bE ⟨tw,trivial⟩
theorem acE:cg zd Tryz.f266 2 1:=cm (L:=acz) (b:=EC) (m:=[]) EE trivial
theorem acF:cg zd Tryz.f266 4 2:=cm (L:=acA) (b:=ED) (m:=[]) EE trivial
theorem at7:cg zd Tryz.f266 0 0:=cm (L:=acy) (b:=EB) (m:=[(2,fP (bJ Tryz.f266) 1),(4,fP (bJ Tryz.f266) 2)]) EE ⟨acE,acF,trivial⟩
theorem atY:aV ac6:=ca (F:=zd) (fn:=Tryz.f266) (m:=cK Tryz.f266 [0,2,4]) EE Tryz.func266 ⟨at7,acE,acF,trivial⟩
def adu:bq:=c4 ⟨oM,cd⟩ 0 ⟨oM,cd⟩
def adv:bq:=c4 ⟨oM,cd⟩ 2 ⟨oM,cd⟩
def adx:bq:=c4 ⟨oM,cd⟩ 6 ⟨oM,cd⟩
def ady:bq:=c4 ⟨oM,cd⟩ 8 ⟨oM,cd⟩
def adw:bq:=c4 ⟨oM,cd⟩ 4 ⟨[(0,.own ac 0),(1,aI),(13,aI)],cd⟩
def adX:aS:=⟨267,⟨Cl,cd⟩,⟨[(0,aI),(1,cX)],cd⟩,dl⟩
def sM:a8:=bW [q8] [(0,adu.go Nc 1),(2,adv.go Nd 1),(6,adx.go Nf 1),(8,ady.go Ng 1),(4,adw.go EU 1)] 1
theorem vi:bL Tryz.prog (sM).Γ:=bE ⟨tw,trivial⟩
theorem auM:cg sM Tryz.f267 0 0:=cm (L:=adu) (b:=EO) (m:=[]) vi trivial
theorem auN:cg sM Tryz.f267 2 1:=cm (L:=adv) (b:=EP) (m:=[]) vi trivial
theorem ad9:cg sM Tryz.f267 6 3:=cm (L:=adx) (b:=ES) (m:=[]) vi trivial
theorem lw:cg sM Tryz.f267 8 4:=cm (L:=ady) (b:=ET) (m:=[]) vi trivial
theorem auO:cg sM Tryz.f267 4 2:=cm (L:=adw) (b:=ER) (m:=[(6,fP (bJ Tryz.f267) 3),(8,fP (bJ Tryz.f267) 4)]) vi ⟨ad9,lw,trivial⟩
theorem au8:aV adX:=ca (F:=sM) (fn:=Tryz.f267) (m:=cK Tryz.f267 [0,2,4,6,8]) vi Tryz.func267 ⟨auM,auN,auO,ad9,lw,trivial⟩
def aeK:aS:=⟨284,hg,HV,FU⟩
theorem aif:aV aeK:=bP (l:=[P5]) Tryz.func284 ⟨Tn,trivial⟩
def ut:aS:=⟨285,⟨[(0,.ptr 0 (.int .u64) 0 [])],[.box 315 (.int .u64) (.dat (.int .u64))]⟩,⟨[(0,.dat (.int .u64))],[.box 315 (.int .u64) (.dat (.int .u64))]⟩,Pv⟩
def aic:a8:=bW [] [] 1
theorem aij:aV ut:=ca (F:=aic) (fn:=Tryz.f285) (m:=[]) (bE trivial) Tryz.func285 trivial
def acB:bq:=c4 ⟨[(0,.own ac 0),(1,aI),(8,aI),(9,.ptr 1 (.int .u64) 0 []),(10,.dat (.int .u64)),(11,aI)],[.arr 39 ac false,.box 315 (.int .u64) (.dat (.int .u64))]⟩ 0 ⟨[],cd⟩
def acS:aS:=⟨262,⟨uh,cd⟩,⟨[],cd⟩,EK⟩
def M5:a8:=bW [aeK,ut] [(0,acB.go M6 1)] 1
theorem adJ:bL Tryz.prog (M5).Γ:=bE ⟨aif,aij,trivial⟩
theorem atV:cg M5 Tryz.f262 0 0:=cm (L:=acB) (b:=zz) (m:=[]) adJ trivial
theorem auk:aV acS:=ca (F:=M5) (fn:=Tryz.f262) (m:=cK Tryz.f262 [0]) adJ Tryz.func262 ⟨atV,trivial⟩
def qg:bq:=⟨⟨[(0,.own ac 0),(1,aI),(2,aI),(3,aI),(4,.fn 236 [] []),(10,cX),(11,cX),(12,aI),(13,aI),(75,cX)],cd⟩,.nrm,⟨Ru,cd⟩,.ret,⟨[],cd⟩⟩
def qh:bq:=⟨⟨[(0,.own ac 0),(1,aI),(2,aI),(3,aI),(4,.fn 236 [] []),(10,cX),(11,cX),(12,aI),(13,aI),(97,cX)],cd⟩,.nrm,⟨RB,cd⟩,(.exit 1),⟨xM,cd⟩⟩
def qj:bq:=⟨⟨RB,cd⟩,.nrm,⟨xM,cd⟩,(.exit 90000020),⟨[],[]⟩⟩
def qi:bq:=⟨⟨Ru,cd⟩,.nrm,⟨xM,cd⟩,(.exit 1),⟨xM,cd⟩⟩
def vg:bq:=⟨⟨xM,cd⟩,.ret,⟨[],cd⟩,(.exit 80000000),⟨[],[]⟩⟩
def io:aS:=⟨251,vl,vm,OZ⟩
def jF (bT:(Int×Int×Int×(List ah)×Unit)->Option ((List ah)×Unit)):a8:=bW [(qx bT),q8,acT,aeh,ads,adO,abi,ac6,adX,acS] [(0,vg.go (E6 bT) 1)] 1
def mr (bT:(Int×Int×Int×(List ah)×Unit)->Option ((List ah)×Unit)):j4:=[(100016,qg.go (lN bT) 1),(100018,qh.go (nQ bT) 1),(20,qj.go (oS bT) 1),(17,qi.go (kt bT) 1)]
theorem aua (bT:(Int×Int×Int×(List ah)×Unit)->Option ((List ah)×Unit)) (s:qg.S.ty.den): @Eq (Option qg.Out) ((fq (jF bT) (mr bT) (dZ (bJ Tryz.f251) 100016) 1 (qg.S.enc s)).bind fun (e,st)=>qg.out (jF bT).m e st).val (lN bT s):=by kernel_rfl
theorem pu (bT:(Int×Int×Int×(List ah)×Unit)->Option ((List ah)×Unit)) (s:qh.S.ty.den): @Eq (Option qh.Out) ((fq (jF bT) (mr bT) (dZ (bJ Tryz.f251) 100018) 1 (qh.S.enc s)).bind fun (e,st)=>qh.out (jF bT).m e st).val (nQ bT s):=by kernel_rfl
theorem auE (bT:(Int×Int×Int×(List ah)×Unit)->Option ((List ah)×Unit)) (s:qj.S.ty.den): @Eq (Option qj.Out) ((fq (jF bT) (mr bT) (dZ (bJ Tryz.f251) 20) 1 (qj.S.enc s)).bind fun (e,st)=>qj.out (jF bT).m e st).val (oS bT s):=by kernel_rfl
theorem auC (bT:(Int×Int×Int×(List ah)×Unit)->Option ((List ah)×Unit)) (s:qi.S.ty.den): @Eq (Option qi.Out) ((fq (jF bT) (mr bT) (dZ (bJ Tryz.f251) 17) 1 (qi.S.enc s)).bind fun (e,st)=>qi.out (jF bT).m e st).val (kt bT s):=by kernel_rfl
theorem auP (bT:(Int×Int×Int×(List ah)×Unit)->Option ((List ah)×Unit)) (s:vg.S.ty.den): @Eq (Option (vg.S.ty.den⊕vg.Out)) (vg.bodyK (jF bT) (mr bT) (fP (bJ Tryz.f251) 0) 0 s).val (vn bT s):=by kernel_rfl
theorem avm (bT:(Int×Int×Int×(List ah)×Unit)->Option ((List ah)×Unit)) (s:vl.ty.den): @Eq (Option vm.ty.den) (qu (jF bT) (mr bT) Tryz.f251 vl vm s).val (zu bT s):=by kernel_rfl
theorem vo (bT:(Int×Int×Int×(List ah)×Unit)->Option ((List ah)×Unit)) (ju:cc Tryz.prog (qx bT)):bL Tryz.prog (jF bT).Γ:=bE ⟨(ju.x (by kernel_rfl)),tw,aul,avr,auY,auz,atp,atY,au8,auk,trivial⟩
theorem aub (bT:(Int×Int×Int×(List ah)×Unit)->Option ((List ah)×Unit)) (ju:cc Tryz.prog (qx bT)):ic Tryz.prog (jF bT) Tryz.f251.ntmps (qg.go (lN bT) 1) (dZ (bJ Tryz.f251) 100016):=
  kg dE (vo bT ju) dN (L:=qg) (k:=1) (f:=lN bT) (C:=(mr bT)) (l:=[]) (m:=[]) (by kernel_rfl) trivial (by kernel_rfl) trivial (by kernel_rfl) (dQ _ (by kernel_rfl)) (aua bT)
theorem auc (bT:(Int×Int×Int×(List ah)×Unit)->Option ((List ah)×Unit)) (ju:cc Tryz.prog (qx bT)):ic Tryz.prog (jF bT) Tryz.f251.ntmps (qh.go (nQ bT) 1) (dZ (bJ Tryz.f251) 100018):=
  kg dE (vo bT ju) dN (L:=qh) (k:=1) (f:=nQ bT) (C:=(mr bT)) (l:=[]) (m:=[]) (by kernel_rfl) trivial (by kernel_rfl) trivial (by kernel_rfl) (dQ _ (by kernel_rfl)) (pu bT)
theorem auF (bT:(Int×Int×Int×(List ah)×Unit)->Option ((List ah)×Unit)) (ju:cc Tryz.prog (qx bT)):ic Tryz.prog (jF bT) Tryz.f251.ntmps (qj.go (oS bT) 1) (dZ (bJ Tryz.f251) 20):=
  kg dE (vo bT ju) dN (L:=qj) (k:=1) (f:=oS bT) (C:=(mr bT)) (l:=[]) (m:=[]) (by kernel_rfl) trivial (by kernel_rfl) trivial (by kernel_rfl) (dQ _ (by kernel_rfl)) (auE bT)
theorem auD (bT:(Int×Int×Int×(List ah)×Unit)->Option ((List ah)×Unit)) (ju:cc Tryz.prog (qx bT)):ic Tryz.prog (jF bT) Tryz.f251.ntmps (qi.go (kt bT) 1) (dZ (bJ Tryz.f251) 17):=
  kg dE (vo bT ju) dN (L:=qi) (k:=1) (f:=kt bT) (C:=(mr bT)) (l:=[]) (m:=[(qh.go (nQ bT) 1,dZ (bJ Tryz.f251) 100018),(qj.go (oS bT) 1,dZ (bJ Tryz.f251) 20)]) (by kernel_rfl) trivial (by kernel_rfl) ⟨auc bT ju,auF bT ju,trivial⟩ (by kernel_rfl) (dQ _ (by kernel_rfl)) (auC bT)
theorem un (bT:(Int×Int×Int×(List ah)×Unit)->Option ((List ah)×Unit)) (ju:cc Tryz.prog (qx bT)):fS Tryz.prog (jF bT) Tryz.f251.ntmps 0 (fP (bJ Tryz.f251) 0):=
  aoV dE (vo bT ju) dN (L:=vg) (f:=E6 bT) (b:=vn bT) (C:=(mr bT)) (l:=[]) (m:=[(qg.go (lN bT) 1,dZ (bJ Tryz.f251) 100016),(qi.go (kt bT) 1,dZ (bJ Tryz.f251) 17)]) (fun _=>rfl) (by kernel_rfl) (by kernel_rfl) trivial (by kernel_rfl) ⟨aub bT ju,auD bT ju,trivial⟩ (by kernel_rfl) (dQ _ (by kernel_rfl)) (auP bT)
theorem auy (bT:(Int×Int×Int×(List ah)×Unit)->Option ((List ah)×Unit)) (ju:cc Tryz.prog (qx bT)):cc Tryz.prog ⟨251,vl,vm,zu bT⟩:=
  x9 (C:=(mr bT)) (F:=(jF bT)) dE (vo bT ju) dN (fn:=Tryz.f251) (l:=[(0,fP (bJ Tryz.f251) 0)]) (m:=[]) Tryz.func251 (by kernel_rfl) (by kernel_rfl) (by kernel_rfl) ⟨un bT ju,trivial⟩ (by kernel_rfl) trivial (dQ _ (by kernel_rfl)) (by kernel_rfl) (avm bT)
theorem adn: ∀n,cc Tryz.prog ⟨251,vl,vm,EV n⟩
  |0=>yo
  |n+1=>auy _ (adn n)
theorem avn:cc Tryz.prog io:=adn jB
theorem avx:aV io:=(avn).x (by kernel_rfl)
def ad1:aS:=⟨235,⟨[(0,.own ac 0),(1,.fn 236 [] [])],cd⟩,⟨[],cd⟩,E5⟩
def auG:a8:=bW [P5,io] [] 1
theorem auL:aV ad1:=ca (F:=auG) (fn:=Tryz.f235) (m:=[]) (bE ⟨Tn,avx,trivial⟩) Tryz.func235 trivial
def UH:bq:=c4 ⟨[(4,.own ac 0),(13,.own ac 1),(14,aI),(15,aI)],[.arr 39 ac false,.arr 39 ac false]⟩ 0 ⟨[(4,.own ac 0)],cd⟩
def Hm:aS:=⟨213,r4,⟨ig,cd⟩,tX⟩
def JM:a8:=bW [F0,OT,adM,ad1] [(0,UH.go JZ 0)] 0
theorem Xv:bL Tryz.prog (JM).Γ:=bE ⟨PC,avl,rt,auL,trivial⟩
theorem amW:cg JM Tryz.f213 0 0:=cm (L:=UH) (b:=rl) (m:=[]) Xv trivial
theorem J0:aV Hm:=ca (F:=JM) (fn:=Tryz.f213) (m:=cK Tryz.f213 [0]) Xv Tryz.func213 ⟨amW,trivial⟩
def UI:bq:=⟨⟨[(3,.own ac 0),(4,cn),(7,.dat (.list ac)),(8,aI),(9,aI)],cd⟩,.ret,⟨[(2,.own ac 0)],cd⟩,(.exit 0),⟨[(3,.own ac 0),(4,cn)],cd⟩⟩
def W0:aS:=⟨238,r4,⟨ig,cd⟩,ye⟩
def JN:a8:=bW [] [(0,UI.go J1 0)] 0
theorem Xw:bL Tryz.prog (JN).Γ:=bE trivial
theorem amY:cg JN Tryz.f238 0 0:=cm (L:=UI) (b:=rm) (m:=[]) Xw trivial
theorem ant:aV W0:=ca (F:=JN) (fn:=Tryz.f238) (m:=cK Tryz.f238 [0]) Xw Tryz.func238 ⟨amY,trivial⟩
def TD:bq:=c4 ⟨[(0,.dat (.list ac)),(5,.own ac 0),(7,.ptr 1 ac 0 []),(12,.own ac 2),(13,aI),(14,aI),(18,.dat (.list ac)),(19,aI),(20,aI)],[.arr 39 ac false,.box 39 ac (.dat ac),.arr 39 ac false]⟩ 2 Q6
def Um:bq:=c4 Q6 0 ⟨[(5,.own ac 0)],cd⟩
def VH:aS:=⟨215,⟨[(0,.dat (.list ac)),(1,.dat (.list ac))],[]⟩,⟨ig,cd⟩,Da⟩
def Hb:a8:=bW [BK,Hm,W0] [(2,TD.go Jv 0),(0,Um.go Ju 0)] 0
theorem Jt:bL Tryz.prog (Hb).Γ:=bE ⟨Hw,J0,ant,trivial⟩
theorem Vi:cg Hb Tryz.f215 2 1:=cm (L:=TD) (b:=Bi) (m:=[]) Jt trivial
theorem alE:cg Hb Tryz.f215 0 0:=cm (L:=Um) (b:=Bx) (m:=[(2,fP (bJ Tryz.f215) 1)]) Jt ⟨Vi,trivial⟩
theorem amV:aV VH:=ca (F:=Hb) (fn:=Tryz.f215) (m:=cK Tryz.f215 [0,2]) Jt Tryz.func215 ⟨alE,Vi,trivial⟩
def S1:aS:=⟨214,⟨[(0,.dat (.list ac)),(1,.ptr 0 (.list ac) 0 [])],[.box 62 (.list ac) (.own ac 1),.arr 39 ac false]⟩,⟨[(0,.own ac 2)],[.box 62 (.list ac) (.own ac 1),.arr 39 ac true,.arr 39 ac false]⟩,wS⟩
def akb:a8:=bW [VH] [] 2
theorem ako:aV S1:=ca (F:=akb) (fn:=Tryz.f214) (m:=[]) (bE ⟨amV,trivial⟩) Tryz.func214 trivial
def Uw:aS:=⟨218,⟨[(0,.dat ac),(1,cn),(2,cn)],[]⟩,m0,BY⟩
theorem amB:aV Uw:=bP (l:=[n0,G9]) Tryz.func218 ⟨pC,Jw,trivial⟩
def ae0:bq:=c4 ⟨[(5,.ptr 1 (.list ac) 0 []),(7,.ptr 3 cJ 0 []),(9,.ptr 4 ac 0 []),(11,.own ac 5),(60,.own ac 2),(61,aI),(62,aI)],[.loop 1016800 Cw,.box 62 (.list ac) (.own ac 2),.arr 39 ac true,.box 41 cJ (.dat cJ),.box 39 ac (.dat ac),.arr 39 ac false]⟩ 3 ⟨[(5,.ptr 1 (.list ac) 0 []),(11,.own ac 3)],[.loop 1016800 Cw,.box 62 (.list ac) (.own ac 2),.arr 39 ac true,.arr 39 ac false]⟩
def Pk:Shape:=⟨[(0,.yld 1016800 0),(1,aI),(2,.dat cJ)],[.loop 1016800 Cw,.box 62 (.list ac) (.own ac 2),.arr 39 ac false]⟩
def Pl:Shape:=⟨[(0,cX)],[.loop 1016800 Cw,.box 62 (.list ac) (.own ac 3),.gone,.arr 39 ac false]⟩
def ae8:aS:=⟨1016800,Pk,Pl,nY⟩
def FT:a8:=bW [pF,BK,B0,n0,Hm,S1,Uw] [(3,ae0.go Pq 3)] 3
theorem aiL (s:Pk.ty.den): @Eq (Option Pl.ty.den) (qv FT e1 1016800 (iO Tryz.f168 0) Pk Pl s).val (nY s):=by kernel_rfl
theorem afc:bL Tryz.prog (FT).Γ:=bE ⟨rh,Hw,C1,pC,J0,ako,amB,trivial⟩
theorem aiq:fS Tryz.prog FT Tryz.f168.ntmps 3 (fP (Sd Tryz.f168 0) 0):=cm (L:=ae0) (b:=vA) (m:=[]) afc trivial
theorem aiM:aV ae8:=
  C8 (F:=FT) (c:=iO Tryz.f168 0) dE afc dN (by kernel_rfl) (by kernel_rfl) (by kernel_rfl) (m:=[(3,fP (Sd Tryz.f168 0) 0)]) (by kernel_rfl) ⟨aiq,trivial⟩ (by kernel_rfl) aiL
def acM:bq:=⟨⟨[(0,.yld 1016800 0),(1,.ptr 1 (.list cJ) 0 []),(3,aI)],Cp⟩,.ret,⟨[],Cp⟩,(.exit 0),⟨[],Cp⟩⟩
def acX:aS:=⟨209,⟨[(0,.yld 1016800 0),(1,.ptr 1 (.list cJ) 0 [])],[.loop 1016800 [(5,.ptr 2 (.list ac) 0 [])],.box 83 (.list cJ) (.dat (.list cJ)),.box 62 (.list ac) (.own ac 3),.arr 39 ac false]⟩,⟨[],Cp⟩,M3⟩
def Mz:a8:=bW [ae8] [(0,acM.go MG 4)] 4
theorem adb:bL Tryz.prog (Mz).Γ:=bE ⟨aiM,trivial⟩
theorem at1:cg Mz Tryz.f209 0 0:=cm (L:=acM) (b:=ze) (m:=[]) adb trivial
theorem atM:aV acX:=ca (F:=Mz) (fn:=Tryz.f209) (m:=cK Tryz.f209 [0]) adb Tryz.func209 ⟨at1,trivial⟩
def QO:Shape:=⟨[(0,.dat ac),(1,.dat (.list cJ))],[]⟩
def QP:Shape:=⟨ig,cd⟩
def QW:aS:=⟨168,QO,QP,BX⟩
def Ux:a8:={cx:=fV,Γ:=gl [Nh,Hm,acX],Λ:=fun k st=>.fail,keep:=fun _=>none,m:=0,rfs:=fun k=>bif Nat.beq k 3 then some 1016800 else none,its:=[209]}
theorem amx (s:QO.ty.den): @Eq (Option QP.ty.den) (ku Ux Tryz.f168 QO QP s).val (BX s):=by kernel_rfl
theorem amy:cc Tryz.prog QW:=
  pQ (F:=Ux) dE (bE ⟨aek,J0,atM,trivial⟩) dN (fn:=Tryz.f168) (m:=[]) Tryz.func168 (by kernel_rfl) (by kernel_rfl) (by kernel_rfl) trivial (yI (m:=[(3,iO Tryz.f168 0)]) (its:=[209]) (by kernel_rfl) ⟨yR (Y:=1016800) (by kernel_rfl) (by kernel_rfl),trivial⟩ (by kernel_rfl) ⟨⟨_,Tryz.func209,by kernel_rfl,by kernel_rfl⟩,trivial⟩) (by kernel_rfl) amx
theorem amz:aV QW:=(amy).x (by kernel_rfl)
def aeX:aS:=⟨169,⟨[(0,.dat ac),(1,.ptr 0 ac 0 [])],iu⟩,⟨[(0,cX)],iu⟩,Pw⟩
def aid:a8:=bW [pF,BK] [] 1
theorem ail:aV aeX:=ca (F:=aid) (fn:=Tryz.f169) (m:=[]) (bE ⟨rh,Hw,trivial⟩) Tryz.func169 trivial
end D
open Go Go.X Go.Proofs D
namespace D
def W6:bq:=c4 ⟨[(0,.dat (.list ba)),(7,.dat (.list cJ)),(8,aI),(9,aI)],[]⟩ 0 m2
def Kz:aS:=⟨43,Rk,m2,uJ⟩
def KA:a8:=bW [Jy] [(0,W6.go KK 0)] 0
theorem YD:bL Tryz.prog (KA).Γ:=bE ⟨XD,trivial⟩
theorem an0:cg KA Tryz.f43 0 0:=cm (L:=W6) (b:=ya) (m:=[]) YD trivial
theorem YE:aV Kz:=ca (F:=KA) (fn:=Tryz.f43) (m:=cK Tryz.f43 [0]) YD Tryz.func43 ⟨an0,trivial⟩
def afE:aS:=⟨173,⟨[(0,.dat ac),(1,.ptr 0 ba 0 [])],nL⟩,⟨[(0,cX)],nL⟩,Qh⟩
def ajh:a8:=bW [tG] [] 1
theorem ajy:aV afE:=ca (F:=ajh) (fn:=Tryz.f173) (m:=[]) (bE ⟨xg,trivial⟩) Tryz.func173 trivial
def i7:bq:=⟨⟨[(0,.dat (.list ac)),(1,.fn 173 [] [(.ptr 0 ba 0 [])]),(7,aI),(8,aI)],nL⟩,.ret,⟨[(4,aI)],nL⟩,(.exit 0),⟨[],nL⟩⟩
def ac1:aS:=⟨116,⟨[(0,.dat (.list ac)),(1,.fn 173 [] [(.ptr 0 ba 0 [])])],nL⟩,⟨[(0,aI)],nL⟩,E1⟩
def MC:a8:=bW [afE] [(0,i7.go MI 1)] 1
theorem adj:bL Tryz.prog (MC).Γ:=bE ⟨ajy,trivial⟩
theorem at5:cg MC Tryz.f116 0 0:=cm (L:=i7) (b:=zy) (m:=[]) adj trivial
theorem atQ:aV ac1:=ca (F:=MC) (fn:=Tryz.f116) (m:=cK Tryz.f116 [0]) adj Tryz.func116 ⟨at5,trivial⟩
def acI:aS:=⟨71,⟨[(0,.dat (.list ac)),(1,.fn 173 [] [(.ptr 0 ba 0 [])])],nL⟩,⟨[(0,cX)],nL⟩,zf⟩
def atv:a8:=bW [ac1] [] 1
theorem atC:aV acI:=ca (F:=atv) (fn:=Tryz.f71) (m:=[]) (bE ⟨atQ,trivial⟩) Tryz.func71 trivial
def P8:aS:=⟨172,⟨[(0,.dat ba),(1,.ptr 0 (.list ac) 0 [])],[.box 62 (.list ac) (.dat (.list ac))]⟩,⟨[(0,cX)],[.box 62 (.list ac) (.dat (.list ac))]⟩,Bn⟩
def akh:a8:=bW [acI] [] 1
theorem Tm:aV P8:=ca (F:=akh) (fn:=Tryz.f172) (m:=[]) (bE ⟨atC,trivial⟩) Tryz.func172 trivial
def acV:bq:=⟨⟨[(0,.own ba 0),(1,.fn 172 [] [(.ptr 1 (.list ac) 0 [])]),(7,aI),(8,aI)],qa⟩,.ret,⟨[(4,aI)],qa⟩,(.exit 0),⟨[],qa⟩⟩
def adq:aS:=⟨219,⟨[(0,.own ba 0),(1,.fn 172 [] [(.ptr 1 (.list ac) 0 [])])],qa⟩,⟨[(0,aI)],qa⟩,ci⟩
def MZ:a8:=bW [P8] [(0,acV.go M4 2)] 2
theorem adB:bL Tryz.prog (MZ).Γ:=bE ⟨Tm,trivial⟩
theorem auw:cg MZ Tryz.f219 0 0:=cm (L:=acV) (b:=zn) (m:=[]) adB trivial
theorem auW:aV adq:=ca (F:=MZ) (fn:=Tryz.f219) (m:=cK Tryz.f219 [0]) adB Tryz.func219 ⟨auw,trivial⟩
def ac7:bq:=c4 ⟨[(0,.own ba 0),(1,.fn 172 [] [(.ptr 1 (.list ac) 0 [])]),(5,aI),(6,aI)],qa⟩ 0 ⟨[(0,.own ba 0),(5,aI)],qa⟩
def adL:aS:=⟨170,⟨[(0,.own ba 0),(1,.fn 172 [] [(.ptr 1 (.list ac) 0 [])])],qa⟩,⟨[(0,.own ba 2)],[.gone,.box 62 (.list ac) (.dat (.list ac)),.arr 58 ba false]⟩,zr⟩
def MR:a8:=bW [P8,adq] [(0,ac7.go MV 2)] 2
theorem adQ:bL Tryz.prog (MR).Γ:=bE ⟨Tm,auW,trivial⟩
theorem auh:cg MR Tryz.f170 0 0:=cm (L:=ac7) (b:=vc) (m:=[]) adQ trivial
theorem auu:aV adL:=ca (F:=MR) (fn:=Tryz.f170) (m:=cK Tryz.f170 [0]) adQ Tryz.func170 ⟨auh,trivial⟩
def QC:aS:=⟨137,HI,hY,xi⟩
theorem VG:aV QC:=bP (l:=[vk,adL]) Tryz.func137 ⟨Fa,auu,trivial⟩
def OM:Shape:=⟨[(0,.yld 1013600 0),(1,.dat ba)],[.loop 1013600 [(12,.ptr 1 (.list ba) 0 [])],.box 64 (.list ba) (.own ba 2),.arr 58 ba false]⟩
def ON:Shape:=⟨[(0,cX)],[.loop 1013600 [(12,.ptr 1 (.list ba) 0 [])],.box 64 (.list ba) (.own ba 3),.gone,.arr 58 ba false]⟩
def aen:aS:=⟨1013600,OM,ON,Fi⟩
def aeo:a8:=bW [] [] 3
theorem avv (s:OM.ty.den): @Eq (Option ON.ty.den) (qv aeo e1 1013600 (iO Tryz.f136 0) OM ON s).val (Fi s):=by kernel_rfl
theorem avF:aV aen:=
  C8 (F:=aeo) (c:=iO Tryz.f136 0) dE (bE trivial) dN (by kernel_rfl) (by kernel_rfl) (by kernel_rfl) (m:=[]) (by kernel_rfl) trivial (by kernel_rfl) avv
def i8:bq:=⟨⟨[(0,.own ac 0),(1,.fn 169 [] [(.ptr 1 ac 0 [])]),(7,aI),(8,aI)],r3⟩,.ret,⟨[(4,aI)],r3⟩,(.exit 0),⟨[],r3⟩⟩
def ac2:aS:=⟨116,⟨[(0,.own ac 0),(1,.fn 169 [] [(.ptr 1 ac 0 [])])],r3⟩,⟨[(0,aI)],r3⟩,E2⟩
def MD:a8:=bW [aeX] [(0,i8.go MJ 2)] 2
theorem adk:bL Tryz.prog (MD).Γ:=bE ⟨ail,trivial⟩
theorem pi:cg MD Tryz.f116 0 0:=cm (L:=i8) (b:=ce) (m:=[]) adk trivial
theorem atS:aV ac2:=ca (F:=MD) (fn:=Tryz.f116) (m:=cK Tryz.f116 [0]) adk Tryz.func116 ⟨pi,trivial⟩
def acJ:aS:=⟨71,⟨[(0,.own ac 0),(1,.fn 169 [] [(.ptr 1 ac 0 [])])],r3⟩,⟨[(0,cX)],r3⟩,zg⟩
def ol:a8:=bW [ac2] [] 2
theorem atD:aV acJ:=ca (F:=ol) (fn:=Tryz.f71) (m:=[]) (bE ⟨atS,trivial⟩) Tryz.func71 trivial
def vr:bq:=⟨⟨[(0,.yld 1013600 0),(1,.ptr 1 .opq 0 []),(41,.own ba 8),(42,aI),(43,aI)],[.loop 1013600 [(12,.ptr 5 (.list ba) 0 [])],.box 141 .opq (.ptr 6 eR 0 []),.box 3 (.int .i64) aI,.box 39 ac (.dat ac),.box 62 (.list ac) (.dat (.list ac)),.box 64 (.list ba) (.own ba 9),.box 143 eR k3,.gone,.arr 58 ba false,.arr 58 ba false]⟩,.ret,HJ,(.exit 0),HJ⟩
def O6:Shape:=⟨[(0,.yld 1013600 0),(1,.ptr 1 .opq 0 []),(2,.ptr 2 (.int .i64) 0 []),(3,.ptr 3 ac 0 []),(4,.ptr 4 (.list ac) 0 [])],[.loop 1013600 [(12,.ptr 5 (.list ba) 0 [])],.box 141 .opq (.ptr 6 eR 0 []),.box 3 (.int .i64) aI,.box 39 ac (.dat ac),.box 62 (.list ac) (.dat (.list ac)),.box 64 (.list ba) (.own ba 7),.box 143 eR k3,.arr 58 ba false]⟩
def O7:Shape:=HJ
def md (cv:(bs×ah×(List ah)×bO×Int×Unit)->Option ((List ak)×bO×Int×Unit)):aS:=⟨135,O6,O7,qD cv⟩
def zI (cv:(bs×ah×(List ah)×bO×Int×Unit)->Option ((List ak)×bO×Int×Unit)):a8:=bW [rv,rj,(nW cv),Kz,QC,aen] [(0,vr.go (vq cv) 8)] 8
theorem avK (cv:(bs×ah×(List ah)×bO×Int×Unit)->Option ((List ak)×bO×Int×Unit)) (s:vr.S.ty.den): @Eq (Option (vr.S.ty.den⊕vr.Out)) (vr.body (zI cv) (fP (bJ Tryz.f135) 0) 0 s).val (qB cv s):=by kernel_rfl
theorem ah3 (cv:(bs×ah×(List ah)×bO×Int×Unit)->Option ((List ak)×bO×Int×Unit)) (s:O6.ty.den): @Eq (Option O7.ty.den) (ku (zI cv) Tryz.f135 O6 O7 s).val (qD cv s):=by kernel_rfl
theorem aeD (cv:(bs×ah×(List ah)×bO×Int×Unit)->Option ((List ak)×bO×Int×Unit)) (iZ:cc Tryz.prog (nW cv)):bL Tryz.prog (zI cv).Γ:=bE ⟨xd,w1,(iZ.x (by kernel_rfl)),YE,VG,avF,trivial⟩
theorem avR (cv:(bs×ah×(List ah)×bO×Int×Unit)->Option ((List ak)×bO×Int×Unit)) (iZ:cc Tryz.prog (nW cv)):fS Tryz.prog (zI cv) Tryz.f135.ntmps 0 (fP (bJ Tryz.f135) 0):=
  pR dE (aeD cv iZ) dN (L:=vr) (f:=vq cv) (b:=qB cv) (m:=[]) (fun _=>rfl) (by kernel_rfl) (by kernel_rfl) trivial (by kernel_rfl) (dQ _ (by kernel_rfl)) (avK cv)
theorem ah4 (cv:(bs×ah×(List ah)×bO×Int×Unit)->Option ((List ak)×bO×Int×Unit)) (iZ:cc Tryz.prog (nW cv)):cc Tryz.prog (md cv):=
  pQ (F:=(zI cv)) dE (aeD cv iZ) dN (fn:=Tryz.f135) (m:=cK Tryz.f135 [0]) Tryz.func135 (by kernel_rfl) (by kernel_rfl) (by kernel_rfl) ⟨avR cv iZ,trivial⟩ (dQ _ (by kernel_rfl)) (by kernel_rfl) (ah3 cv)
theorem ah5 (cv:(bs×ah×(List ah)×bO×Int×Unit)->Option ((List ak)×bO×Int×Unit)) (iZ:cc Tryz.prog (nW cv)):o3 Tryz.prog (md cv):=(ah4 cv iZ).x (by kernel_rfl)
def vt:bq:=c4 ⟨[(0,.ptr 0 eR 0 []),(5,.ptr 1 dp 0 []),(6,.ptr 2 ac 0 []),(8,.dat (.list ba)),(9,.own ac 3),(16,.dat (.list ac)),(17,aI),(18,aI)],Rz⟩ 0 ⟨[(0,.ptr 0 eR 0 []),(5,.ptr 1 dp 0 []),(6,.ptr 2 ac 0 []),(8,.dat (.list ba)),(9,.own ac 3)],Rz⟩
def vu:bq:=⟨⟨[(0,.ptr 0 eR 0 []),(5,.ptr 1 dp 0 []),(8,.dat (.list ba)),(9,.own ac 2),(12,.ptr 3 (.list ba) 0 []),(31,.own ac 4),(32,aI),(33,aI)],[.box 143 eR k3,.box 85 dp (.dat dp),.arr 39 ac true,.box 64 (.list ba) (.own ba 5),.arr 39 ac false,.arr 58 ba false]⟩,.ret,⟨[(8,.dat (.list ba))],[.box 143 eR k3]⟩,(.exit 2),⟨[(12,.ptr 1 (.list ba) 0 [])],[.box 143 eR k3,.box 64 (.list ba) (.own ba 2),.arr 58 ba false]⟩⟩
def Ph:aS:=⟨136,vy,vz,Gf⟩
def sQ (cv:(bs×ah×(List ah)×bO×Int×Unit)->Option ((List ak)×bO×Int×Unit)):a8:={cx:=fV,Γ:=gl [IM,Pj,(nW cv),QW,acJ,(md cv)],Λ:=fun k st=>bif Nat.beq k 0 then vt.go (FV cv) 1 st else bif Nat.beq k 2 then vu.go (FW cv) 1 st else .fail,keep:=fun _=>none,m:=1,rfs:=fun k=>bif Nat.beq k 13 then some 1013600 else none,its:=[135]}
theorem ah9 (cv:(bs×ah×(List ah)×bO×Int×Unit)->Option ((List ak)×bO×Int×Unit)) (s:vt.S.ty.den): @Eq (Option (vt.S.ty.den⊕vt.Out)) (vt.body (sQ cv) (fP (bJ Tryz.f136) 0) 0 s).val (vB cv s):=by kernel_rfl
theorem aia (cv:(bs×ah×(List ah)×bO×Int×Unit)->Option ((List ak)×bO×Int×Unit)) (s:vu.S.ty.den): @Eq (Option (vu.S.ty.den⊕vu.Out)) (vu.body (sQ cv) (fP (bJ Tryz.f136) 1) 2 s).val (sR cv s):=by kernel_rfl
theorem aiN (cv:(bs×ah×(List ah)×bO×Int×Unit)->Option ((List ak)×bO×Int×Unit)) (s:vy.ty.den): @Eq (Option vz.ty.den) (ku (sQ cv) Tryz.f136 vy vz s).val (ii cv s):=by kernel_rfl
theorem Pr (cv:(bs×ah×(List ah)×bO×Int×Unit)->Option ((List ak)×bO×Int×Unit)) (iZ:cc Tryz.prog (nW cv)):bL Tryz.prog (sQ cv).Γ:=bE ⟨V2,wt,(iZ.x (by kernel_rfl)),amz,atD,(ah5 cv iZ),trivial⟩
theorem ait (cv:(bs×ah×(List ah)×bO×Int×Unit)->Option ((List ak)×bO×Int×Unit)) (iZ:cc Tryz.prog (nW cv)):fS Tryz.prog (sQ cv) Tryz.f136.ntmps 0 (fP (bJ Tryz.f136) 0):=
  pR dE (Pr cv iZ) dN (L:=vt) (f:=FV cv) (b:=vB cv) (m:=[]) (fun _=>rfl) (by kernel_rfl) (by kernel_rfl) trivial (by kernel_rfl) (dQ _ (by kernel_rfl)) (ah9 cv)
theorem aiE (cv:(bs×ah×(List ah)×bO×Int×Unit)->Option ((List ak)×bO×Int×Unit)) (iZ:cc Tryz.prog (nW cv)):fS Tryz.prog (sQ cv) Tryz.f136.ntmps 2 (fP (bJ Tryz.f136) 1):=
  pR dE (Pr cv iZ) dN (L:=vu) (f:=FW cv) (b:=sR cv) (m:=[]) (fun _=>rfl) (by kernel_rfl) (by kernel_rfl) trivial (by kernel_rfl) (yI (m:=[(13,iO Tryz.f136 0)]) (its:=[135]) (by kernel_rfl) ⟨yR (Y:=1013600) (by kernel_rfl) (by kernel_rfl),trivial⟩ (by kernel_rfl) ⟨⟨_,Tryz.func135,by kernel_rfl,by kernel_rfl⟩,trivial⟩) (aia cv)
theorem ah2 (cv:(bs×ah×(List ah)×bO×Int×Unit)->Option ((List ak)×bO×Int×Unit)) (iZ:cc Tryz.prog (nW cv)):cc Tryz.prog ⟨136,vy,vz,ii cv⟩:=
  pQ (F:=(sQ cv)) dE (Pr cv iZ) dN (fn:=Tryz.f136) (m:=cK Tryz.f136 [0,2]) Tryz.func136 (by kernel_rfl) (by kernel_rfl) (by kernel_rfl) ⟨ait cv iZ,aiE cv iZ,trivial⟩ (yI (m:=[(13,iO Tryz.f136 0)]) (its:=[135]) (by kernel_rfl) ⟨yR (Y:=1013600) (by kernel_rfl) (by kernel_rfl),trivial⟩ (by kernel_rfl) ⟨⟨_,Tryz.func135,by kernel_rfl,by kernel_rfl⟩,trivial⟩) (by kernel_rfl) (aiN cv)
theorem aeC: ∀n,cc Tryz.prog ⟨136,vy,vz,o7 n⟩
  |0=>yo
  |n+1=>ah2 _ (aeC n)
theorem aiO:cc Tryz.prog Ph:=aeC jB
theorem aiP:aV Ph:=(aiO).x (by kernel_rfl)
def Pe:Shape:=⟨[(0,.yld 1002700 0),(1,.dat ba)],[.loop 1002700 [(7,.ptr 1 (.list ba) 0 [])],.box 64 (.list ba) (.own ba 2),.arr 58 ba false]⟩
def Pf:Shape:=⟨[(0,cX)],[.loop 1002700 [(7,.ptr 1 (.list ba) 0 [])],.box 64 (.list ba) (.own ba 3),.gone,.arr 58 ba false]⟩
def ae3:aS:=⟨1002700,Pe,Pf,F2⟩
def ae4:a8:=bW [] [] 3
theorem air (s:Pe.ty.den): @Eq (Option Pf.ty.den) (qv ae4 e1 1002700 (iO Tryz.f27 0) Pe Pf s).val (F2 s):=by kernel_rfl
theorem ais:aV ae3:=
  C8 (F:=ae4) (c:=iO Tryz.f27 0) dE (bE trivial) dN (by kernel_rfl) (by kernel_rfl) (by kernel_rfl) (m:=[]) (by kernel_rfl) trivial (by kernel_rfl) air
def aeI:bq:=⟨⟨[(0,.yld 1002700 0),(1,.ptr 1 .opq 0 []),(41,.own ba 7),(42,aI),(43,aI)],[.loop 1002700 [(7,.ptr 5 (.list ba) 0 [])],.box 141 .opq (.ptr 6 eR 0 []),.box 3 (.int .i64) aI,.box 39 ac (.dat ac),.box 62 (.list ac) (.dat (.list ac)),.box 64 (.list ba) (.own ba 8),.box 143 eR k3,.arr 58 ba false,.arr 58 ba false]⟩,.ret,HK,(.exit 0),HK⟩
def aeY:aS:=⟨135,⟨[(0,.yld 1002700 0),(1,.ptr 1 .opq 0 []),(2,.ptr 2 (.int .i64) 0 []),(3,.ptr 3 ac 0 []),(4,.ptr 4 (.list ac) 0 [])],[.loop 1002700 [(7,.ptr 5 (.list ba) 0 [])],.box 141 .opq (.ptr 6 eR 0 []),.box 3 (.int .i64) aI,.box 39 ac (.dat ac),.box 62 (.list ac) (.dat (.list ac)),.box 64 (.list ba) (.nils 58 ba),.box 143 eR k3]⟩,HK,sT⟩
def Pb:a8:=bW [rv,rj,Kz,QC,Ph,ae3] [(0,aeI.go vv 7)] 7
theorem aeU:bL Tryz.prog (Pb).Γ:=bE ⟨xd,w1,YE,VG,aiP,ais,trivial⟩
theorem aib:cg Pb Tryz.f135 0 0:=cm (L:=aeI) (b:=sP) (m:=[]) aeU trivial
theorem aim:aV aeY:=ca (F:=Pb) (fn:=Tryz.f135) (m:=cK Tryz.f135 [0]) aeU Tryz.func135 ⟨aib,trivial⟩
def tB:Shape:=⟨[(0,.dat gj),(1,.dat ac)],[]⟩
def tC:Shape:=⟨[(0,.own ba 0),(1,aI)],jc⟩
def JH:aS:=⟨27,tB,tC,kP⟩
def W4:a8:={cx:=fV,Γ:=gl [Pj,aeY],Λ:=fun k st=>.fail,keep:=fun _=>none,m:=0,rfs:=fun k=>bif Nat.beq k 4 then some 1002700 else none,its:=[135]}
theorem an3 (s:tB.ty.den): @Eq (Option tC.ty.den) (ku W4 Tryz.f27 tB tC s).val (kP s):=by kernel_rfl
theorem XA:cc Tryz.prog JH:=
  pQ (F:=W4) dE (bE ⟨wt,aim,trivial⟩) dN (fn:=Tryz.f27) (m:=[]) Tryz.func27 (by kernel_rfl) (by kernel_rfl) (by kernel_rfl) trivial (yI (m:=[(4,iO Tryz.f27 0)]) (its:=[135]) (by kernel_rfl) ⟨yR (Y:=1002700) (by kernel_rfl) (by kernel_rfl),trivial⟩ (by kernel_rfl) ⟨⟨_,Tryz.func135,by kernel_rfl,by kernel_rfl⟩,trivial⟩) (by kernel_rfl) an3
theorem an4:aV JH:=(XA).x (by kernel_rfl)
def Ui:bq:=⟨⟨[(0,.dat (.list ba)),(1,.dat (.list ba)),(5,aI)],[]⟩,.ret,uv,(.exit 0),⟨[],[]⟩⟩
def Bf:Shape:=Rj
def Br:Shape:=dG
def IU:aS:=⟨29,Bf,Br,xk⟩
def I6:a8:=bW [] [(0,Ui.go Jn 0)] 0
theorem WK:bL Tryz.prog (I6).Γ:=bE trivial
theorem aln:cg I6 Tryz.f29 0 0:=cm (L:=Ui) (b:=Bu) (m:=[]) WK trivial
theorem WL:cc Tryz.prog IU:=nJ (F:=I6) (fn:=Tryz.f29) (m:=cK Tryz.f29 [0]) WK Tryz.func29 ⟨aln,trivial⟩
theorem aml:aV IU:=WL.x (by kernel_rfl)
def wG:Shape:=⟨[(0,.dat c0),(1,aI),(2,.dat ac),(3,aI)],[]⟩
def wI:Shape:=hg
def GH (eT:(bO×Int×ah×Int×Unit)->Option (Int×Unit)):aS:=⟨91,wG,wI,eT⟩
def afF:bq:=⟨⟨[(9,.own hA 0),(10,aI),(11,aI)],[.arr 93 hA false]⟩,.ret,p8,(.exit 0),⟨[],[]⟩⟩
def SU:aS:=⟨182,ug,dG,V9⟩
def P9:a8:=bW [] [(0,afF.go Tz 0)] 0
theorem Ty:bL Tryz.prog (P9).Γ:=bE trivial
theorem ajO:cg P9 Tryz.f182 0 0:=cm (L:=afF) (b:=Tx) (m:=[]) Ty trivial
theorem ajR:aV SU:=ca (F:=P9) (fn:=Tryz.f182) (m:=cK Tryz.f182 [0]) Ty Tryz.func182 ⟨ajO,trivial⟩
def Ti:bq:=⟨⟨[(0,.dat (.list ba)),(3,aI)],[]⟩,.ret,p8,(.exit 0),⟨[],[]⟩⟩
def Uv:aS:=⟨180,m2,dG,Yh⟩
def QM:a8:=bW [] [(0,Ti.go VA 0)] 0
theorem Vz:bL Tryz.prog (QM).Γ:=bE trivial
theorem akB:cg QM Tryz.f180 0 0:=cm (L:=Ti) (b:=Vy) (m:=[]) Vz trivial
theorem amw:aV Uv:=ca (F:=QM) (fn:=Tryz.f180) (m:=cK Tryz.f180 [0]) Vz Tryz.func180 ⟨akB,trivial⟩
def SS:aS:=⟨179,Cy,dG,V8⟩
theorem ajQ:aV SS:=bP (l:=[]) Tryz.func179 trivial
def T0:aS:=⟨178,⟨[(0,.dat ba),(1,.ptr 0 ac 0 [])],iu⟩,⟨[(0,cX)],iu⟩,XH⟩
def akj:a8:=bW [tG,SS] [] 1
theorem akM:aV T0:=ca (F:=akj) (fn:=Tryz.f178) (m:=[]) (bE ⟨xg,ajQ,trivial⟩) Tryz.func178 trivial
end D
open Go Go.X Go.Proofs D
namespace D
def i5:bq:=⟨⟨[(0,.dat (.list ba)),(1,.fn 178 [] [(.ptr 0 ac 0 [])]),(7,aI),(8,aI)],iu⟩,.ret,⟨[(4,aI)],iu⟩,(.exit 0),⟨[],iu⟩⟩
def acZ:aS:=⟨219,⟨[(0,.dat (.list ba)),(1,.fn 178 [] [(.ptr 0 ac 0 [])])],iu⟩,⟨[(0,aI)],iu⟩,adC⟩
def MA:a8:=bW [T0] [(0,i5.go adh 1)] 1
theorem adg:bL Tryz.prog (MA).Γ:=bE ⟨akM,trivial⟩
theorem at2:cg MA Tryz.f219 0 0:=cm (L:=i5) (b:=adf) (m:=[]) adg trivial
theorem atO:aV acZ:=ca (F:=MA) (fn:=Tryz.f219) (m:=cK Tryz.f219 [0]) adg Tryz.func219 ⟨at2,trivial⟩
def acY:aS:=⟨181,⟨[(0,.dat (.list ba)),(1,.fn 178 [] [(.ptr 0 ac 0 [])])],iu⟩,⟨[(0,cX)],iu⟩,adA⟩
def atK:a8:=bW [acZ] [] 1
theorem atN:aV acY:=ca (F:=atK) (fn:=Tryz.f181) (m:=[]) (bE ⟨atO,trivial⟩) Tryz.func181 trivial
def GF:aS:=⟨321,fb,r4,Ji⟩
theorem Tu:aV GF:=bP (l:=[]) Tryz.func321 trivial
def Gz:aS:=⟨334,fb,r4,Jd⟩
theorem Tp:aV Gz:=bP (l:=[]) Tryz.func334 trivial
def Gm:aS:=⟨345,fb,r4,IG⟩
theorem SI:aV Gm:=bP (l:=[]) Tryz.func345 trivial
def Gq:aS:=⟨352,fb,⟨ig,cd⟩,II⟩
theorem SL:aV Gq:=bP (l:=[n0]) Tryz.func352 ⟨pC,trivial⟩
def F3:aS:=⟨362,fb,⟨ig,cd⟩,Qq⟩
theorem So:aV F3:=bP (l:=[n0]) Tryz.func362 ⟨pC,trivial⟩
def F8:aS:=⟨368,fb,⟨ig,cd⟩,Qv⟩
theorem Su:aV F8:=bP (l:=[]) Tryz.func368 trivial
def Xf:aS:=⟨187,fb,r4,pT⟩
noncomputable def amN:a8:=kx fV (CP fV (gl [GF,Gz,Gm,Gq,F3,F8]) 110 Tryz.f110 (gl [GF,Gz,Gm,Gq,F3,F8])) (fun k st=>.fail) 0
theorem am4:aV Xf:=ca (F:=amN) (fn:=Tryz.f187) (m:=[]) (C4 (by kernel_rfl) (Dl (F:=(kx fV (gl [GF,Gz,Gm,Gq,F3,F8]) (fun _ _=>.fail) 0)) dE (bE ⟨Tu,Tp,SI,SL,So,Su,trivial⟩) dN Tryz.func110 (by kernel_rfl) (by kernel_rfl) (by kernel_rfl)) (bE ⟨Tu,Tp,SI,SL,So,Su,trivial⟩)) Tryz.func187 trivial
def Ur:aS:=⟨184,xK,dG,Yf⟩
theorem alD:aV Ur:=bP (l:=[F0,pF,tG]) Tryz.func184 ⟨PC,rh,xg,trivial⟩
def Qb:aS:=⟨183,⟨[(0,.dat ac),(1,.ptr 0 ac 0 [])],iu⟩,⟨[(0,cX)],iu⟩,Kc⟩
def akk:a8:=bW [Ur] [] 1
theorem TK:aV Qb:=ca (F:=akk) (fn:=Tryz.f183) (m:=[]) (bE ⟨alD,trivial⟩) Tryz.func183 trivial
def i9:bq:=⟨⟨[(0,.dat (.list ac)),(1,.fn 183 [] [(.ptr 0 ac 0 [])]),(7,aI),(8,aI)],iu⟩,.ret,⟨[(4,aI)],iu⟩,(.exit 0),⟨[],iu⟩⟩
def ac3:aS:=⟨116,⟨[(0,.dat (.list ac)),(1,.fn 183 [] [(.ptr 0 ac 0 [])])],iu⟩,⟨[(0,aI)],iu⟩,adG⟩
def ME:a8:=bW [Qb] [(0,i9.go acN 1)] 1
theorem adm:bL Tryz.prog (ME).Γ:=bE ⟨TK,trivial⟩
theorem at6:cg ME Tryz.f116 0 0:=cm (L:=i9) (b:=adl) (m:=[]) adm trivial
theorem atT:aV ac3:=ca (F:=ME) (fn:=Tryz.f116) (m:=cK Tryz.f116 [0]) adm Tryz.func116 ⟨at6,trivial⟩
def acK:aS:=⟨71,⟨[(0,.dat (.list ac)),(1,.fn 183 [] [(.ptr 0 ac 0 [])])],iu⟩,⟨[(0,cX)],iu⟩,jp⟩
def atA:a8:=bW [ac3] [] 1
theorem atE:aV acK:=ca (F:=atA) (fn:=Tryz.f71) (m:=[]) (bE ⟨atT,trivial⟩) Tryz.func71 trivial
def acx:bq:=⟨⟨[(0,.own ac 0),(1,.fn 183 [] [(.ptr 1 ac 0 [])]),(7,aI),(8,aI)],r2⟩,.ret,⟨[(4,aI)],r2⟩,(.exit 0),⟨[],r2⟩⟩
def ac4:aS:=⟨116,⟨[(0,.own ac 0),(1,.fn 183 [] [(.ptr 1 ac 0 [])])],r2⟩,⟨[(0,aI)],r2⟩,adH⟩
def MF:a8:=bW [Qb] [(0,acx.go acQ 2)] 2
theorem acP:bL Tryz.prog (MF).Γ:=bE ⟨TK,trivial⟩
theorem pm:cg MF Tryz.f116 0 0:=cm (L:=acx) (b:=acO) (m:=[]) acP trivial
theorem atU:aV ac4:=ca (F:=MF) (fn:=Tryz.f116) (m:=cK Tryz.f116 [0]) acP Tryz.func116 ⟨pm,trivial⟩
def acL:aS:=⟨71,⟨[(0,.own ac 0),(1,.fn 183 [] [(.ptr 1 ac 0 [])])],r2⟩,⟨[(0,cX)],r2⟩,ade⟩
def atB:a8:=bW [ac4] [] 2
theorem atF:aV acL:=ca (F:=atB) (fn:=Tryz.f71) (m:=[]) (bE ⟨atU,trivial⟩) Tryz.func71 trivial
def T1:aS:=⟨186,⟨[(0,.dat cJ),(1,.ptr 0 .opq 0 [])],oL⟩,⟨[(0,cX)],oL⟩,XI⟩
def akl:a8:=bW [Wg,Jz,Xf,acK,acL] [] 2
theorem akN:aV T1:=ca (F:=akl) (fn:=Tryz.f186) (m:=[]) (bE ⟨al5,XE,am4,atE,atF,trivial⟩) Tryz.func186 trivial
def ac9:bq:=⟨⟨[(0,.dat (.list cJ)),(1,.fn 186 [] [(.ptr 0 .opq 0 [])]),(7,aI),(8,aI)],oL⟩,.ret,⟨[(4,aI)],oL⟩,(.exit 0),⟨[],oL⟩⟩
def adN:aS:=⟨115,⟨[(0,.dat (.list cJ)),(1,.fn 186 [] [(.ptr 0 .opq 0 [])])],oL⟩,⟨[(0,aI)],oL⟩,adZ⟩
def MT:a8:=bW [T1] [(0,ac9.go adT 2)] 2
theorem adS:bL Tryz.prog (MT).Γ:=bE ⟨akN,trivial⟩
theorem auj:cg MT Tryz.f115 0 0:=cm (L:=ac9) (b:=adR) (m:=[]) adS trivial
theorem auv:aV adN:=ca (F:=MT) (fn:=Tryz.f115) (m:=cK Tryz.f115 [0]) adS Tryz.func115 ⟨auj,trivial⟩
def adK:aS:=⟨185,⟨[(0,.dat (.list cJ)),(1,.fn 186 [] [(.ptr 0 .opq 0 [])])],oL⟩,⟨[(0,cX)],oL⟩,adY⟩
def aug:a8:=bW [adN] [] 2
theorem aut:aV adK:=ca (F:=aug) (fn:=Tryz.f185) (m:=[]) (bE ⟨auv,trivial⟩) Tryz.func185 trivial
def Ub:bq:=⟨⟨[(2,.ptr 0 dp 0 []),(3,.ptr 1 ac 0 []),(6,cn),(67,.dat (.list .str)),(68,aI),(69,aI)],Co⟩,.ret,uv,(.exit 0),⟨[(2,.ptr 0 dp 0 []),(3,.ptr 1 ac 0 [])],Co⟩⟩
def Uc:bq:=⟨⟨[(2,.ptr 0 dp 0 []),(3,.ptr 1 ac 0 []),(90,.dat (.list (.int .i64))),(91,aI),(92,aI)],Co⟩,.ret,uv,(.exit 2),⟨[(2,.ptr 0 dp 0 []),(3,.ptr 1 ac 0 [])],Co⟩⟩
def Wi:aS:=⟨148,HS,dG,YF⟩
def Ha:a8:=bW [SU,Uv,acY,adK] [(0,Ub.go V6 0),(2,Uc.go V7 0)] 0
theorem Jk:bL Tryz.prog (Ha).Γ:=bE ⟨ajR,amw,atN,aut,trivial⟩
theorem alb:cg Ha Tryz.f148 0 0:=cm (L:=Ub) (b:=V4) (m:=[]) Jk trivial
theorem alc:cg Ha Tryz.f148 2 1:=cm (L:=Uc) (b:=V5) (m:=[]) Jk trivial
theorem ama:aV Wi:=ca (F:=Ha) (fn:=Tryz.f148) (m:=cK Tryz.f148 [0,2]) Jk Tryz.func148 ⟨alb,alc,trivial⟩
def IN:aS:=⟨189,⟨[(0,.ptr 0 dJ 0 [0]),(1,aI),(2,aI)],[.box 95 dJ k4]⟩,⟨[],[.box 95 dJ k4]⟩,xj⟩
def amJ:a8:=bW [] [] 1
theorem V3:aV IN:=ca (F:=amJ) (fn:=Tryz.f189) (m:=[]) (bE trivial) Tryz.func189 trivial
def P6:aS:=⟨189,⟨[(0,.ptr 0 dJ 0 [1]),(1,aI),(2,aI)],[.box 95 dJ k4]⟩,⟨[],[.box 95 dJ k4]⟩,wO⟩
def aj9:a8:=bW [] [] 1
theorem Tw:aV P6:=ca (F:=aj9) (fn:=Tryz.f189) (m:=[]) (bE trivial) Tryz.func189 trivial
def E8:aS:=⟨297,uj,hg,OY⟩
set_option maxHeartbeats 1000000 in
theorem auI (a:ByteArray) (c:Int) (w:World):Calls Tryz.prog 297 #[.string a,.int .u8 c] w fun e w'=>e=.returned (.int .i64 (Lib.indexByte a.data.toList c.toNat.toUInt8))/\w'=w:=by
  go_enter Tryz.func297,Tryz.ntmps297
  go_wp2
  rw[run_callFunc_extern Tryz.func301 (by kernel_rfl) (by kernel_rfl) (by kernel_rfl) (e:=Extern.BytealgIndexByte.indexByte) (by kernel_rfl),Lib.run_indexByteString]
  simp only[Result.andThen]
  rw[Oper.upon_value]
  go_wp2
  go_ret
  exact ⟨rfl,rfl⟩
theorem avi:cc Tryz.prog E8:=agU (g:=fun a c=>Lib.indexByte a c.toNat.toUInt8) Tryz.func297 (by kernel_rfl) auI
theorem aed:aV E8:=avi.x (by kernel_rfl)
def afn:aS:=⟨288,uj,hg,Sx⟩
theorem aiQ:aV afn:=bP (l:=[E8]) Tryz.func288 ⟨aed,trivial⟩
def aeG:aS:=⟨289,⟨[(0,.dat (.int .i32))],[]⟩,dG,ae1⟩
theorem ah7:aV aeG:=bP (l:=[]) Tryz.func289 trivial
def ae5:bq:=⟨⟨[(175,.ptr 0 .unit 0 [])],[.iter]⟩,.ret,⟨[(4,aI)],[]⟩,(.exit 9),⟨[],[]⟩⟩
def afp:aS:=⟨271,⟨[(0,cn),(1,.dat (.int .i32))],[]⟩,hg,Gv⟩
def sS:a8:=bW [afn,aeG] [(9,ae5.go afi 0)] 0
theorem afg:bL Tryz.prog (sS).Γ:=bE ⟨aiQ,ah7,trivial⟩
theorem aiG:cg sS Tryz.f271 1 1:=uG (fun _=>rfl)
theorem aiH:cg sS Tryz.f271 3 2:=uG (fun _=>rfl)
theorem aiI:cg sS Tryz.f271 5 3:=uG (fun _=>rfl)
theorem aiJ:cg sS Tryz.f271 7 4:=uG (fun _=>rfl)
theorem aiF:cg sS Tryz.f271 9 0:=cm (L:=ae5) (b:=aff) (m:=[]) afg trivial
theorem aiS:aV afp:=ca (F:=sS) (fn:=Tryz.f271) (m:=cK Tryz.f271 [9,1,3,5,7]) afg Tryz.func271 ⟨aiF,aiG,aiH,aiI,aiJ,trivial⟩
def aet:aS:=⟨272,hg,dG,aeJ⟩
theorem y6:aV aet:=bP (l:=[]) Tryz.func272 trivial
def aeZ:bq:=⟨⟨[(1,cn),(45,.ptr 0 .unit 0 [])],[.iter]⟩,.ret,⟨[(4,aI)],[]⟩,(.exit 2),⟨[],[]⟩⟩
def aiw:aS:=⟨254,hZ,hg,PN⟩
def FR:a8:=bW [afp,aet] [(2,aeZ.go wl 0)] 0
theorem afb:bL Tryz.prog (FR).Γ:=bE ⟨aiS,y6,trivial⟩
theorem aio:cg FR Tryz.f254 0 0:=uG (fun _=>rfl)
theorem aip:cg FR Tryz.f254 2 1:=cm (L:=aeZ) (b:=afa) (m:=[]) afb trivial
theorem aiD:cc Tryz.prog aiw:=nJ (F:=FR) (fn:=Tryz.f254) (m:=cK Tryz.f254 [0,2]) afb Tryz.func254 ⟨aio,aip,trivial⟩
def afx:Shape:=hZ
end D
