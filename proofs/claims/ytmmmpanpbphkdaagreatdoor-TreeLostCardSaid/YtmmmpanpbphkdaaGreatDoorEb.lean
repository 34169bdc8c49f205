import Derived.Test.YtmmmpanpbphkdaaGreatDoorEa
set_option linter.unusedVariables false
set_option maxRecDepth 100000
open Go Go.X Go.Proofs D
namespace D
noncomputable def aoT:bk:=l4 hh (E0 hh (hL [Jc,I7,IS,C5,IV,pi]) 110 Tryz.f110 (hL [Jc,I7,IS,C5,IV,pi])) (λk st=>.fail) 0
theorem Zy:a6 MK:=cz (F:=aoT) (fn:=Tryz.f61) (m:=[]) (Fm (by kernel_rfl) (FJ (F:=(l4 hh (hL [Jc,I7,IS,C5,IV,pi]) (λ_ _=>.fail) 0)) ev (bT ⟨VL,VG,Vc,SM,Vf,UY,ag⟩) eK Tryz.func110 (by kernel_rfl) (by kernel_rfl) (by kernel_rfl)) (bT ⟨VL,VG,Vc,SM,Vf,UY,ag⟩)) Tryz.func61 ag
def Xu:bL:=dV ⟨[(4,.ptr 0 dC 0 []),(6,.ptr 1 dC 0 []),(7,.own (.int .i64) 2)],[.box 32 dC oU,.box 32 dC (.agg [(.own hZ 3)]),.arr 3 (.int .i64) false,.arr 87 hZ false]⟩ 0 ⟨[(4,.ptr 0 dC 0 []),(6,.ptr 1 dC 0 [])],zJ⟩
def Zh:aV:=⟨64,r1,r1,tQ⟩
def Ms:bk:=cp [J7,Mi] [(0,Xu.go MI 0)] 0
theorem ZF:ca bg (Ms).Γ:=bT ⟨MJ,Y5,ag⟩
theorem aob:cL Ms Tryz.f64 0 0:=cT (ar:=Xu) (b:=vP) (m:=[]) ZF ag
theorem apf:a6 Zh:=cz (F:=Ms) (fn:=Tryz.f64) (m:=dw Tryz.f64 [0]) ZF Tryz.func64 ⟨aob,ag⟩
def ago:aV:=⟨62,⟨[(0,.dat (.list dx))],[]⟩,⟨[(0,.clip dx)],[]⟩,Im⟩
theorem axZ:a6 ago:=cb (l:=[]) Tryz.func62 ag
def D7:Shape:=⟨[(0,.dat fY),(1,.dat dx)],[]⟩
def D9:Shape:=⟨[(0,.dat fY),(1,aN)],[]⟩
def Nj:aV:=⟨15,D7,D9,qu⟩
def ap8:bk:=n1 [tn,tl,M6,ML,MK,Zh,ago]
theorem aak:cF bg Nj:=pJ (F:=ap8) (fn:=Tryz.f15) (m:=[]) (bT ⟨y9,yZ,Z6,Zz,Zy,apf,axZ,ag⟩) Tryz.func15 ag
theorem aqf:a6 Nj:=aak.x (by kernel_rfl)
def VE:bL:=dV ⟨[(1,.ptr 0 fY 0 []),(3,.ptr 1 er 0 []),(5,aN)],[.box 36 fY (.dat fY),.box 85 er (.dat er)]⟩ 0 ⟨[(5,aN)],[]⟩
def rx:Shape:=EJ
def Di:Shape:=iE
def amI:aV:=⟨17,rx,Di,Np⟩
def Lq:bk:=cp [tn,tl] [(0,VE.go XL 0)] 0
theorem XK:ca bg (Lq).Γ:=bT ⟨y9,yZ,ag⟩
theorem amE:cL Lq Tryz.f17 0 0:=cT (ar:=VE) (b:=XJ) (m:=[]) XK ag
theorem aoF:cF bg amI:=pJ (F:=Lq) (fn:=Tryz.f17) (m:=dw Tryz.f17 [0]) XK Tryz.func17 ⟨amE,ag⟩
def Ds:Shape:=⟨[],[]⟩
def Dt:Shape:=EJ
def amH:aV:=⟨80,Ds,Dt,M9⟩
def amJ:bk:=n1 [MQ,Mn]
theorem ang:cF bg amH:=pJ (F:=amJ) (fn:=Tryz.f80) (m:=[]) (bT ⟨ZM,YF,ag⟩) Tryz.func80 ag
def Sr:aV:=⟨85,⟨[(0,.ptr 0 fK 0 []),(1,aN),(2,.dat ac),(3,.dat (.list ac))],[.box 143 fK mD]⟩,⟨[(0,.fn 135 [] [(.ptr 1 .opq 0 []),(.ptr 2 (.int .i64) 0 []),(.ptr 3 ac 0 []),(.ptr 4 (.list ac) 0 [])])],[.box 143 fK mD,.box 141 .opq (.ptr 0 fK 0 []),.box 3 (.int .i64) aN,.box 39 ac (.dat ac),.box 62 (.list ac) (.dat (.list ac))]⟩,qV⟩
def akZ:bk:=cp [] [] 1
theorem ag9:a6 Sr:=cz (F:=akZ) (fn:=Tryz.f85) (m:=[]) (bT ag) Tryz.func85 ag
def yj:Shape:=⟨[(0,.ptr 0 fK 0 []),(1,.dat er),(2,.dat ac),(3,.dat (.list ac))],[.box 143 fK mD]⟩
def yk:Shape:=⟨[(0,.dat (.list bs))],[.box 143 fK mD]⟩
def pW (cS:(cZ×aK×aq×bZ×Int×G)->N (aj×bZ×Int×G)):aV:=⟨136,yj,yk,cS⟩
def RO:aV:=⟨234,ui,⟨jI,cv⟩,HI⟩
def v6:bk:=l4 hh (hL []) (λ_ _=>.fail) 0
theorem axD:cF bg RO:=
  abq (F:=v6) ev (bT ag) eK (fn:=Tryz.f234) Tryz.func234 (by kernel_rfl) (by kernel_rfl) (by kernel_rfl) (by kernel_rfl) (by kernel_rfl) (λd=>(decide ((List.length ([]:aq)+List.length d.1)*32<=bp))) (λd=>(d.1,())) (λd=>([],())) (λd=>List.length d.1) (λd=>rfl) (λd=>by kernel_rfl) (λd=>by kernel_rfl) (λd h=>congrArg (λl=>(l,())) (List.eq_nil_of_length_eq_zero h).symm)
theorem axE:a6 RO:=axD.x (by kernel_rfl)
def afa:bL:=⟨⟨[(0,.own ac 0),(1,.fn 74 [] []),(7,aN),(8,aN)],cv⟩,.ret,⟨[(4,aN)],cv⟩,(.exit 0),⟨[],cv⟩⟩
def aeT:aV:=⟨116,⟨[(0,.own ac 0),(1,.fn 74 [] [])],cv⟩,⟨[(0,aN)],cv⟩,xy⟩
def PS:bk:=cp [ru] [(0,afa.go PZ 1)] 1
theorem ae6:ca bg (PS).Γ:=bT ⟨te,ag⟩
theorem avY:cL PS Tryz.f116 0 0:=cT (ar:=afa) (b:=ci) (m:=[]) ae6 ag
theorem awm:a6 aeT:=cz (F:=PS) (fn:=Tryz.f116) (m:=dw Tryz.f116 [0]) ae6 Tryz.func116 ⟨avY,ag⟩
def ae1:bL:=dV ⟨[(0,.own ac 0),(1,.fn 74 [] []),(5,aN),(6,aN)],cv⟩ 0 ⟨[(0,.own ac 0),(5,aN)],cv⟩
def afq:aV:=⟨233,⟨[(0,.own ac 0),(1,.fn 74 [] [])],cv⟩,⟨[(0,.own ac 1)],[.gone,.arr 39 ac false]⟩,BD⟩
def PM:bk:=cp [ru,aeT] [(0,ae1.go Qe 1)] 1
theorem afv:ca bg (PM).Γ:=bT ⟨te,awm,ag⟩
theorem awg:cL PM Tryz.f233 0 0:=cT (ar:=ae1) (b:=xw) (m:=[]) afv ag
theorem awD:a6 afq:=cz (F:=PM) (fn:=Tryz.f233) (m:=dw Tryz.f233 [0]) afv Tryz.func233 ⟨awg,ag⟩
def ahr:aV:=⟨269,Ky,iE,Tm⟩
theorem alF:a6 ahr:=cb (l:=[]) Tryz.func269 ag
def S2:aV:=⟨252,Ky,iE,yN⟩
theorem VF:a6 S2:=cb (l:=[ahr]) Tryz.func252 ⟨alF,ag⟩
def xI:Shape:=⟨Ew,cv⟩
def xD:Shape:=⟨[],cv⟩
def ss (cf:(Int×Int×Int×aq×G)->N (aq×G)):aV:=⟨251,xI,xD,cf⟩
def ag1:aV:=⟨237,ju,iE,IN⟩
theorem ak0:a6 ag1:=cb (l:=[SH]) Tryz.func237 ⟨ahz,ag⟩
def s5:aV:=⟨236,zF,iE,k7⟩
theorem vI:a6 s5:=cb (l:=[ag1]) Tryz.func236 ⟨ak0,ag⟩
def aeN:bL:=dV ⟨[(0,.own ac 0),(1,aN),(2,aN),(3,.fn 236 [] []),(8,aN),(9,aN)],cv⟩ 2 ⟨[(0,.own ac 0),(1,aN),(2,aN),(3,.fn 236 [] []),(8,aN)],cv⟩
def aeM:bL:=dV ⟨[(0,.own ac 0),(1,aN),(2,aN),(3,.fn 236 [] []),(8,aN)],cv⟩ 0 ⟨[],cv⟩
def afj:aV:=⟨260,⟨wD,cv⟩,⟨[],cv⟩,Ha⟩
def Hj:bk:=cp [s5] [(2,aeN.go Hk 1),(0,aeM.go PK 1)] 1
theorem PJ:ca bg (Hj).Γ:=bT ⟨vI,ag⟩
theorem afD:cL Hj Tryz.f260 2 1:=cT (ar:=aeN) (b:=xu) (m:=[]) PJ ag
theorem aws:cL Hj Tryz.f260 0 0:=cT (ar:=aeM) (b:=BQ) (m:=[(2,hy (bX Tryz.f260) 1)]) PJ ⟨afD,ag⟩
theorem awG:a6 afj:=cz (F:=Hj) (fn:=Tryz.f260) (m:=dw Tryz.f260 [0,2]) PJ Tryz.func260 ⟨aws,afD,ag⟩
def afO:bL:=⟨⟨[(0,.own ac 0),(2,aN),(3,aN),(4,.fn 236 [] []),(10,aN)],cv⟩,(.exit 0),⟨[],cv⟩,.ret,⟨[],cv⟩⟩
def af6:aV:=⟨283,⟨Ew,cv⟩,⟨[],cv⟩,BT⟩
def i6:bk:=cp [s5] [(0,afO.go RL 1)] 1
theorem af9:ca bg (i6).Γ:=bT ⟨vI,ag⟩
theorem axw:cL i6 Tryz.f283 0 0:=cT (ar:=afO) (b:=u3) (m:=[]) af9 ag
theorem axr:a6 af6:=cz (F:=i6) (fn:=Tryz.f283) (m:=dw Tryz.f283 [0]) af9 Tryz.func283 ⟨axw,ag⟩
def afM:bL:=dV ⟨[(0,.own ac 0),(3,.fn 236 [] []),(8,aN),(9,aN),(10,aN),(11,aN)],cv⟩ 0 ⟨[(0,.own ac 0),(3,.fn 236 [] []),(8,aN),(9,aN),(10,aN)],cv⟩
def afN:bL:=dV ⟨[(0,.own ac 0),(3,.fn 236 [] []),(8,aN),(9,aN),(12,aN)],cv⟩ 2 ⟨[],cv⟩
def af5:aV:=⟨261,⟨wD,cv⟩,⟨[],cv⟩,HG⟩
def Hq:bk:=cp [af6] [(0,afM.go RI 1),(2,afN.go RJ 1)] 1
theorem RH:ca bg (Hq).Γ:=bT ⟨axr,ag⟩
theorem axt:cL Hq Tryz.f261 0 0:=cT (ar:=afM) (b:=BV) (m:=[]) RH ag
theorem axu:cL Hq Tryz.f261 2 1:=cT (ar:=afN) (b:=BW) (m:=[]) RH ag
theorem axp:a6 af5:=cz (F:=Hq) (fn:=Tryz.f261) (m:=dw Tryz.f261 [0,2]) RH Tryz.func261 ⟨axt,axu,ag⟩
def agk:aV:=⟨296,⟨[(0,.own ac 0),(1,aN),(2,aN),(3,.ptr 1 (.int .i64) 0 []),(4,.fn 236 [] [])],wG⟩,⟨[(0,aN),(1,aN)],wG⟩,xJ⟩
def axJ:bk:=cp [s5] [] 2
theorem axO:a6 agk:=cz (F:=axJ) (fn:=Tryz.f296) (m:=[]) (bT ⟨vI,ag⟩) Tryz.func296 ag
def RQ:aV:=⟨287,⟨[(0,.own ac 0),(1,aN),(2,aN),(3,aN),(4,.ptr 1 (.int .i64) 0 []),(5,.fn 236 [] [])],wG⟩,⟨[(0,aN)],wG⟩,BZ⟩
def axI:bk:=cp [agk] [] 2
theorem age:a6 RQ:=cz (F:=axI) (fn:=Tryz.f287) (m:=[]) (bT ⟨axO,ag⟩) Tryz.func287 ag
def aeY:aV:=⟨286,⟨[(0,.own ac 0),(1,aN),(2,.ptr 1 (.int .i64) 0 []),(3,.fn 236 [] [])],wG⟩,⟨[(0,aN)],wG⟩,xz⟩
def awj:bk:=cp [RQ] [] 2
theorem awt:a6 aeY:=cz (F:=awj) (fn:=Tryz.f286) (m:=[]) (bT ⟨age,ag⟩) Tryz.func286 ag
def afV:aV:=⟨263,⟨wD,cv⟩,⟨[(0,aN),(1,aN)],cv⟩,Hr⟩
def awL:bk:=cp [RQ,aeY] [] 1
theorem awQ:a6 afV:=cz (F:=awL) (fn:=Tryz.f263) (m:=[]) (bT ⟨age,awt,ag⟩) Tryz.func263 ag
def ae3:bL:=dV ⟨[(0,.own ac 0),(8,aN),(9,aN)],cv⟩ 0 ⟨[],cv⟩
def afs:aV:=⟨264,⟨wD,cv⟩,⟨[],cv⟩,BF⟩
def PO:bk:=cp [] [(0,ae3.go Qg 1)] 1
theorem afy:ca bg (PO).Γ:=bT ag
theorem rg:cL PO Tryz.f264 0 0:=cT (ar:=ae3) (b:=Bw) (m:=[]) afy ag
theorem awX:a6 afs:=cz (F:=PO) (fn:=Tryz.f264) (m:=dw Tryz.f264 [0]) afy Tryz.func264 ⟨rg,ag⟩
end D
open Go Go.X Go.Proofs D
namespace D
def adm:bL:=dV ⟨zI,cv⟩ 2 ⟨zI,cv⟩
def adn:bL:=dV ⟨[(0,.own ac 0),(1,aN),(2,aN),(3,.fn 236 [] []),(9,aN),(10,aN),(11,aN)],cv⟩ 4 ⟨zI,cv⟩
def ado:bL:=dV ⟨[(0,.own ac 0),(1,aN),(2,aN),(3,.fn 236 [] []),(9,aN),(10,aN),(12,aN)],cv⟩ 6 ⟨zI,cv⟩
def adl:bL:=⟨⟨zI,cv⟩,.ret,⟨[(8,du)],cv⟩,(.exit 0),⟨[],cv⟩⟩
def aeJ:aV:=⟨265,⟨wD,cv⟩,⟨[(0,du)],cv⟩,Bq⟩
def bi:bk:=cp [s5] [(2,adm.go G2 1),(4,adn.go G3 1),(6,ado.go G4 1),(0,adl.go Pv 1)] 1
theorem Bp:ca bg (bi).Γ:=bT ⟨vI,ag⟩
theorem adv:cL bi Tryz.f265 2 1:=cT (ar:=adm) (b:=Bm) (m:=[]) Bp ag
theorem adw:cL bi Tryz.f265 4 2:=cT (ar:=adn) (b:=Bn) (m:=[]) Bp ag
theorem adA:cL bi Tryz.f265 6 3:=cT (ar:=ado) (b:=Bo) (m:=[]) Bp ag
theorem avz:cL bi Tryz.f265 0 0:=cT (ar:=adl) (b:=Bu) (m:=[(2,hy (bX Tryz.f265) 1),(4,hy (bX Tryz.f265) 2),(6,hy (bX Tryz.f265) 3)]) Bp ⟨adv,adw,adA,ag⟩
theorem avB:a6 aeJ:=cz (F:=bi) (fn:=Tryz.f265) (m:=dw Tryz.f265 [0,2,4,6]) Bp Tryz.func265 ⟨avz,adv,adw,adA,ag⟩
def afg:bL:=dV ⟨zD,cv⟩ 2 ⟨zD,cv⟩
def afh:bL:=dV ⟨zD,cv⟩ 4 ⟨zD,cv⟩
def aff:bL:=dV ⟨zD,cv⟩ 0 ⟨[(11,aN)],cv⟩
def aeZ:aV:=⟨266,⟨Ew,cv⟩,⟨[(0,aN)],cv⟩,Bz⟩
def Bs:bk:=cp [s5] [(2,afg.go PF 1),(4,afh.go PG 1),(0,aff.go Hi 1)] 1
theorem dl:ca bg (Bs).Γ:=bT ⟨vI,ag⟩
theorem aeO:cL Bs Tryz.f266 2 1:=cT (ar:=afg) (b:=Hg) (m:=[]) dl ag
theorem aeP:cL Bs Tryz.f266 4 2:=cT (ar:=afh) (b:=Hh) (m:=[]) dl ag
theorem av3:cL Bs Tryz.f266 0 0:=cT (ar:=aff) (b:=Hf) (m:=[(2,hy (bX Tryz.f266) 1),(4,hy (bX Tryz.f266) 2)]) dl ⟨aeO,aeP,ag⟩
theorem awe:a6 aeZ:=cz (F:=Bs) (fn:=Tryz.f266) (m:=dw Tryz.f266 [0,2,4]) dl Tryz.func266 ⟨av3,aeO,aeP,ag⟩
def afY:bL:=dV ⟨qB,cv⟩ 0 ⟨qB,cv⟩
def af0:bL:=dV ⟨qB,cv⟩ 2 ⟨qB,cv⟩
def lw:bL:=dV ⟨qB,cv⟩ 6 ⟨qB,cv⟩
def af2:bL:=dV ⟨qB,cv⟩ 8 ⟨qB,cv⟩
def af1:bL:=dV ⟨qB,cv⟩ 4 ⟨[(0,.own ac 0),(1,aN),(13,aN)],cv⟩
def agc:aV:=⟨267,⟨Ew,cv⟩,⟨[(0,aN),(1,du)],cv⟩,BR⟩
def u4:bk:=cp [s5] [(0,afY.go RT 1),(2,af0.go RU 1),(6,lw.go RV 1),(8,af2.go RW 1),(4,af1.go Hn 1)] 1
theorem xC:ca bg (u4).Γ:=bT ⟨vI,ag⟩
theorem aw5:cL u4 Tryz.f267 0 0:=cT (ar:=afY) (b:=HA) (m:=[]) xC ag
theorem aw6:cL u4 Tryz.f267 2 1:=cT (ar:=af0) (b:=HB) (m:=[]) xC ag
theorem afQ:cL u4 Tryz.f267 6 3:=cT (ar:=lw) (b:=HD) (m:=[]) xC ag
theorem afR:cL u4 Tryz.f267 8 4:=cT (ar:=af2) (b:=Hm) (m:=[]) xC ag
theorem aw7:cL u4 Tryz.f267 4 2:=cT (ar:=af1) (b:=HC) (m:=[(6,hy (bX Tryz.f267) 3),(8,hy (bX Tryz.f267) 4)]) xC ⟨afQ,afR,ag⟩
theorem axv:a6 agc:=cz (F:=u4) (fn:=Tryz.f267) (m:=dw Tryz.f267 [0,2,4,6,8]) xC Tryz.func267 ⟨aw5,aw6,aw7,afQ,afR,ag⟩
def agz:aV:=⟨284,iE,Ky,Iv⟩
theorem akm:a6 agz:=cb (l:=[S2]) Tryz.func284 ⟨VF,ag⟩
def agI:aV:=⟨285,⟨[(0,.ptr 0 (.int .u64) 0 [])],[.box 315 (.int .u64) (.dat (.int .u64))]⟩,⟨[(0,.dat (.int .u64))],[.box 315 (.int .u64) (.dat (.int .u64))]⟩,SC⟩
def akt:bk:=cp [] [] 1
theorem akv:a6 agI:=cz (F:=akt) (fn:=Tryz.f285) (m:=[]) (bT ag) Tryz.func285 ag
def aeL:bL:=dV ⟨[(0,.own ac 0),(1,aN),(8,aN),(9,.ptr 1 (.int .u64) 0 []),(10,.dat (.int .u64)),(11,aN)],[.arr 39 ac false,.box 315 (.int .u64) (.dat (.int .u64))]⟩ 0 ⟨[],cv⟩
def afi:aV:=⟨262,⟨wD,cv⟩,⟨[],cv⟩,G9⟩
def PH:bk:=cp [agz,agI] [(0,aeL.go PI 1)] 1
theorem afn:ca bg (PH).Γ:=bT ⟨akm,akv,ag⟩
theorem awr:cL PH Tryz.f262 0 0:=cT (ar:=aeL) (b:=BP) (m:=[]) afn ag
theorem rc:a6 afi:=cz (F:=PH) (fn:=Tryz.f262) (m:=dw Tryz.f262 [0]) afn Tryz.func262 ⟨awr,ag⟩
def r9:bL:=⟨⟨[(0,.own ac 0),(1,aN),(2,aN),(3,aN),(4,.fn 236 [] []),(10,du),(11,du),(12,aN),(13,aN),(75,du)],cv⟩,.nrm,⟨T2,cv⟩,.ret,⟨[],cv⟩⟩
def sa:bL:=⟨⟨[(0,.own ac 0),(1,aN),(2,aN),(3,aN),(4,.fn 236 [] []),(10,du),(11,du),(12,aN),(13,aN),(97,du)],cv⟩,.nrm,⟨T9,cv⟩,(.exit 1),⟨zH,cv⟩⟩
def sr:bL:=⟨⟨T9,cv⟩,.nrm,⟨zH,cv⟩,(.exit 90000020),⟨[],[]⟩⟩
def sq:bL:=⟨⟨T2,cv⟩,.nrm,⟨zH,cv⟩,(.exit 1),⟨zH,cv⟩⟩
def xA:bL:=⟨⟨zH,cv⟩,.ret,⟨[],cv⟩,(.exit 80000000),⟨[],[]⟩⟩
def RP:aV:=⟨251,xI,xD,R3⟩
def kX (cf:(Int×Int×Int×aq×G)->N (aq×G)):bk:=cp [(ss cf),s5,afj,af5,afV,afs,aeJ,aeZ,agc,afi] [(0,xA.go (Hx cf) 1)] 1
def ob (cf:(Int×Int×Int×aq×G)->N (aq×G)):lA:=[(100016,r9.go (ni cf) 1),(100018,sa.go (pP cf) 1),(20,sr.go (qT cf) 1),(17,sq.go (l3 cf) 1)]
theorem av4 (cf:(Int×Int×Int×aq×G)->N (aq×G)) (d:r9.S.ty.den): @Eq (N r9.Out) ((gD (kX cf) (ob cf) (eR (bX Tryz.f251) 100016) 1 (r9.S.enc d)).bind λ(e,st)=>r9.out (kX cf).m e st).val (ni cf d):=by kernel_rfl
theorem av6 (cf:(Int×Int×Int×aq×G)->N (aq×G)) (d:sa.S.ty.den): @Eq (N sa.Out) ((gD (kX cf) (ob cf) (eR (bX Tryz.f251) 100018) 1 (sa.S.enc d)).bind λ(e,st)=>sa.out (kX cf).m e st).val (pP cf d):=by kernel_rfl
theorem awT (cf:(Int×Int×Int×aq×G)->N (aq×G)) (d:sr.S.ty.den): @Eq (N sr.Out) ((gD (kX cf) (ob cf) (eR (bX Tryz.f251) 20) 1 (sr.S.enc d)).bind λ(e,st)=>sr.out (kX cf).m e st).val (qT cf d):=by kernel_rfl
theorem awR (cf:(Int×Int×Int×aq×G)->N (aq×G)) (d:sq.S.ty.den): @Eq (N sq.Out) ((gD (kX cf) (ob cf) (eR (bX Tryz.f251) 17) 1 (sq.S.enc d)).bind λ(e,st)=>sq.out (kX cf).m e st).val (l3 cf d):=by kernel_rfl
theorem aw8 (cf:(Int×Int×Int×aq×G)->N (aq×G)) (d:xA.S.ty.den): @Eq (N (xA.S.ty.den⊕xA.Out)) (xA.bodyK (kX cf) (ob cf) (hy (bX Tryz.f251) 0) 0 d).val (xE cf d):=by kernel_rfl
theorem axF (cf:(Int×Int×Int×aq×G)->N (aq×G)) (d:xI.ty.den): @Eq (N xD.ty.den) (so (kX cf) (ob cf) Tryz.f251 xI xD d).val (BE cf d):=by kernel_rfl
theorem xF (cf:(Int×Int×Int×aq×G)->N (aq×G)) (kQ:cF bg (ss cf)):ca bg (kX cf).Γ:=bT ⟨(kQ.x (by kernel_rfl)),vI,awG,axp,awQ,awX,avB,awe,axv,rc,ag⟩
theorem av5 (cf:(Int×Int×Int×aq×G)->N (aq×G)) (kQ:cF bg (ss cf)):jG bg (kX cf) Tryz.f251.ntmps (r9.go (ni cf) 1) (eR (bX Tryz.f251) 100016):=
  lQ ev (xF cf kQ) eK (ar:=r9) (k:=1) (f:=ni cf) (C:=(ob cf)) (l:=[]) (m:=[]) (by kernel_rfl) ag (by kernel_rfl) ag (by kernel_rfl) (eN _ (by kernel_rfl)) (av4 cf)
theorem av7 (cf:(Int×Int×Int×aq×G)->N (aq×G)) (kQ:cF bg (ss cf)):jG bg (kX cf) Tryz.f251.ntmps (sa.go (pP cf) 1) (eR (bX Tryz.f251) 100018):=
  lQ ev (xF cf kQ) eK (ar:=sa) (k:=1) (f:=pP cf) (C:=(ob cf)) (l:=[]) (m:=[]) (by kernel_rfl) ag (by kernel_rfl) ag (by kernel_rfl) (eN _ (by kernel_rfl)) (av6 cf)
theorem awU (cf:(Int×Int×Int×aq×G)->N (aq×G)) (kQ:cF bg (ss cf)):jG bg (kX cf) Tryz.f251.ntmps (sr.go (qT cf) 1) (eR (bX Tryz.f251) 20):=
  lQ ev (xF cf kQ) eK (ar:=sr) (k:=1) (f:=qT cf) (C:=(ob cf)) (l:=[]) (m:=[]) (by kernel_rfl) ag (by kernel_rfl) ag (by kernel_rfl) (eN _ (by kernel_rfl)) (awT cf)
theorem awS (cf:(Int×Int×Int×aq×G)->N (aq×G)) (kQ:cF bg (ss cf)):jG bg (kX cf) Tryz.f251.ntmps (sq.go (l3 cf) 1) (eR (bX Tryz.f251) 17):=
  lQ ev (xF cf kQ) eK (ar:=sq) (k:=1) (f:=l3 cf) (C:=(ob cf)) (l:=[]) (m:=[(sa.go (pP cf) 1,eR (bX Tryz.f251) 100018),(sr.go (qT cf) 1,eR (bX Tryz.f251) 20)]) (by kernel_rfl) ag (by kernel_rfl) ⟨av7 cf kQ,awU cf kQ,ag⟩ (by kernel_rfl) (eN _ (by kernel_rfl)) (awR cf)
theorem axq (cf:(Int×Int×Int×aq×G)->N (aq×G)) (kQ:cF bg (ss cf)):hl bg (kX cf) Tryz.f251.ntmps 0 (hy (bX Tryz.f251) 0):=
  aqV ev (xF cf kQ) eK (ar:=xA) (f:=Hx cf) (b:=xE cf) (C:=(ob cf)) (l:=[]) (m:=[(r9.go (ni cf) 1,eR (bX Tryz.f251) 100016),(sq.go (l3 cf) 1,eR (bX Tryz.f251) 17)]) (λ_=>rfl) (by kernel_rfl) (by kernel_rfl) ag (by kernel_rfl) ⟨av5 cf kQ,awS cf kQ,ag⟩ (by kernel_rfl) (eN _ (by kernel_rfl)) (aw8 cf)
theorem awW (cf:(Int×Int×Int×aq×G)->N (aq×G)) (kQ:cF bg (ss cf)):cF bg ⟨251,xI,xD,BE cf⟩:=
  Aa (C:=(ob cf)) (F:=(kX cf)) ev (xF cf kQ) eK (fn:=Tryz.f251) (l:=[(0,hy (bX Tryz.f251) 0)]) (m:=[]) Tryz.func251 (by kernel_rfl) (by kernel_rfl) (by kernel_rfl) ⟨axq cf kQ,ag⟩ (by kernel_rfl) ag (eN _ (by kernel_rfl)) (by kernel_rfl) (axF cf)
theorem afx: ∀n,cF bg ⟨251,xI,xD,Ho n⟩
  |0=>F5
  |n+1=>awW _ (afx n)
theorem axG:cF bg RP:=afx kZ
theorem axH:a6 RP:=(axG).x (by kernel_rfl)
def afJ:aV:=⟨235,⟨[(0,.own ac 0),(1,.fn 236 [] [])],cv⟩,⟨[],cv⟩,Hw⟩
def axd:bk:=cp [S2,RP] [] 1
theorem aw4:a6 afJ:=cz (F:=axd) (fn:=Tryz.f235) (m:=[]) (bT ⟨VF,axH,ag⟩) Tryz.func235 ag
def XB:bL:=dV ⟨[(4,.own ac 0),(13,.own ac 1),(14,aN),(15,aN)],[.arr 39 ac false,.arr 39 ac false]⟩ 0 ⟨[(4,.own ac 0)],cv⟩
def J8:aV:=⟨213,ui,⟨jI,cv⟩,wm⟩
def Mu:bk:=cp [IA,RO,afq,afJ] [(0,XB.go M1 0)] 0
theorem ZO:ca bg (Mu).Γ:=bT ⟨SF,axE,awD,aw4,ag⟩
theorem aoz:cL Mu Tryz.f213 0 0:=cT (ar:=XB) (b:=tj) (m:=[]) ZO ag
theorem M3:a6 J8:=cz (F:=Mu) (fn:=Tryz.f213) (m:=dw Tryz.f213 [0]) ZO Tryz.func213 ⟨aoz,ag⟩
def XC:bL:=⟨⟨[(3,.own ac 0),(4,cW),(7,.dat (.list ac)),(8,aN),(9,aN)],cv⟩,.ret,⟨[(2,.own ac 0)],cv⟩,(.exit 0),⟨[(3,.own ac 0),(4,cW)],cv⟩⟩
def Zn:aV:=⟨238,ui,⟨jI,cv⟩,Aw⟩
def Mv:bk:=cp [] [(0,XC.go M4 0)] 0
theorem ZT:ca bg (Mv).Γ:=bT ag
theorem aoY:cL Mv Tryz.f238 0 0:=cT (ar:=XC) (b:=tk) (m:=[]) ZT ag
theorem apt:a6 Zn:=cz (F:=Mv) (fn:=Tryz.f238) (m:=dw Tryz.f238 [0]) ZT Tryz.func238 ⟨aoY,ag⟩
def Ww:bL:=dV ⟨[(0,.dat (.list ac)),(5,.own ac 0),(7,.ptr 1 ac 0 []),(12,.own ac 2),(13,aN),(14,aN),(18,.dat (.list ac)),(19,aN),(20,aN)],[.arr 39 ac false,.box 39 ac (.dat ac),.arr 39 ac false]⟩ 2 TL
def Wv:bL:=dV TL 0 ⟨[(5,.own ac 0)],cv⟩
def Yj:aV:=⟨215,⟨[(0,.dat (.list ac)),(1,.dat (.list ac))],[]⟩,⟨jI,cv⟩,FD⟩
def JI:bk:=cp [DP,J8,Zn] [(2,Ww.go Md 0),(0,Wv.go Mc 0)] 0
theorem Mb:ca bg (JI).Γ:=bT ⟨J4,M3,apt,ag⟩
theorem XY:cL JI Tryz.f215 2 1:=cT (ar:=Ww) (b:=DL) (m:=[]) Mb ag
theorem anE:cL JI Tryz.f215 0 0:=cT (ar:=Wv) (b:=DK) (m:=[(2,hy (bX Tryz.f215) 1)]) Mb ⟨XY,ag⟩
theorem aoy:a6 Yj:=cz (F:=JI) (fn:=Tryz.f215) (m:=dw Tryz.f215 [0,2]) Mb Tryz.func215 ⟨anE,XY,ag⟩
def VX:aV:=⟨214,⟨[(0,.dat (.list ac)),(1,.ptr 0 (.list ac) 0 [])],[.box 62 (.list ac) (.own ac 1),.arr 39 ac false]⟩,⟨[(0,.own ac 2)],[.box 62 (.list ac) (.own ac 1),.arr 39 ac true,.arr 39 ac false]⟩,yQ⟩
def amd:bk:=cp [Yj] [] 2
theorem amy:a6 VX:=cz (F:=amd) (fn:=Tryz.f214) (m:=[]) (bT ⟨aoy,ag⟩) Tryz.func214 ag
def Xr:aV:=⟨218,⟨[(0,.dat ac),(1,cW),(2,cW)],[]⟩,oT,y6⟩
theorem aoD:a6 Xr:=cb (l:=[qd,JG]) Tryz.func218 ⟨rq,Me,ag⟩
def agN:bL:=dV ⟨[(5,.ptr 1 (.list ac) 0 []),(7,.ptr 3 dx 0 []),(9,.ptr 4 ac 0 []),(11,.own ac 5),(60,.own ac 2),(61,aN),(62,aN)],[.loop 1016800 EG,.box 62 (.list ac) (.own ac 2),.arr 39 ac true,.box 41 dx (.dat dx),.box 39 ac (.dat ac),.arr 39 ac false]⟩ 3 ⟨[(5,.ptr 1 (.list ac) 0 []),(11,.own ac 3)],[.loop 1016800 EG,.box 62 (.list ac) (.own ac 2),.arr 39 ac true,.arr 39 ac false]⟩
def Ss:Shape:=⟨[(0,.yld 1016800 0),(1,aN),(2,.dat dx)],[.loop 1016800 EG,.box 62 (.list ac) (.own ac 2),.arr 39 ac false]⟩
def St:Shape:=⟨[(0,du)],[.loop 1016800 EG,.box 62 (.list ac) (.own ac 3),.gone,.arr 39 ac false]⟩
def ag3:aV:=⟨1016800,Ss,St,pX⟩
def Iu:bk:=cp [ru,DP,D5,qd,J8,VX,Xr] [(3,agN.go So 3)] 3
theorem akT (d:Ss.ty.den): @Eq (N St.ty.den) (sf Iu gb 1016800 (kj Tryz.f168 0) Ss St d).val (pX d):=by kernel_rfl
theorem ag8:ca bg (Iu).Γ:=bT ⟨te,J4,Ff,rq,M3,amy,aoD,ag⟩
theorem akB:hl bg Iu Tryz.f168.ntmps 3 (hy (UR Tryz.f168 0) 0):=cT (ar:=agN) (b:=yl) (m:=[]) ag8 ag
theorem akU:a6 ag3:=
  FB (F:=Iu) (c:=kj Tryz.f168 0) ev ag8 eK (by kernel_rfl) (by kernel_rfl) (by kernel_rfl) (m:=[(3,hy (UR Tryz.f168 0) 0)]) (by kernel_rfl) ⟨akB,ag⟩ (by kernel_rfl) akT
def ae8:bL:=⟨⟨[(0,.yld 1016800 0),(1,.ptr 1 (.list dx) 0 []),(3,aN)],EA⟩,.ret,⟨[],EA⟩,(.exit 0),⟨[],EA⟩⟩
def aeQ:aV:=⟨209,⟨[(0,.yld 1016800 0),(1,.ptr 1 (.list dx) 0 [])],[.loop 1016800 [(5,.ptr 2 (.list ac) 0 [])],.box 83 (.list dx) (.dat (.list dx)),.box 62 (.list ac) (.own ac 3),.arr 39 ac false]⟩,⟨[],EA⟩,P4⟩
def PQ:bk:=cp [ag3] [(0,ae8.go PX 4)] 4
theorem ae4:ca bg (PQ).Γ:=bT ⟨akU,ag⟩
theorem avW:cL PQ Tryz.f209 0 0:=cT (ar:=ae8) (b:=BH) (m:=[]) ae4 ag
theorem awk:a6 aeQ:=cz (F:=PQ) (fn:=Tryz.f209) (m:=dw Tryz.f209 [0]) ae4 Tryz.func209 ⟨avW,ag⟩
def Lr:Shape:=⟨[(0,.dat ac),(1,.dat (.list dx))],[]⟩
def Ls:Shape:=⟨jI,cv⟩
def Lb:aV:=⟨168,Lr,Ls,Ed⟩
def Xs:bk:={cx:=hh,Γ:=hL [RX,J8,aeQ],Λ:=λk st=>.fail,keep:=λ_=>none,m:=0,rfs:=λk=>bif Nat.beq k 3 then some 1016800 else none,its:=[209]}
theorem anM (d:Lr.ty.den): @Eq (N Ls.ty.den) (mM Xs Tryz.f168 Lr Ls d).val (Ed d):=by kernel_rfl
theorem aoA:cF bg Lb:=
  tO (F:=Xs) ev (bT ⟨af8,M3,awk,ag⟩) eK (fn:=Tryz.f168) (m:=[]) Tryz.func168 (by kernel_rfl) (by kernel_rfl) (by kernel_rfl) ag (AT (m:=[(3,kj Tryz.f168 0)]) (its:=[209]) (by kernel_rfl) ⟨A5 (Y:=1016800) (by kernel_rfl) (by kernel_rfl),ag⟩ (by kernel_rfl) ⟨⟨_,Tryz.func209,by kernel_rfl,by kernel_rfl⟩,ag⟩) (by kernel_rfl) anM
theorem aoB:a6 Lb:=(aoA).x (by kernel_rfl)
def agK:aV:=⟨169,⟨[(0,.dat ac),(1,.ptr 0 ac 0 [])],jV⟩,⟨[(0,du)],jV⟩,SB⟩
def aku:bk:=cp [ru,DP] [] 1
theorem akx:a6 agK:=cz (F:=aku) (fn:=Tryz.f169) (m:=[]) (bT ⟨te,J4,ag⟩) Tryz.func169 ag
end D
open Go Go.X Go.Proofs D
namespace D
def Zt:bL:=dV ⟨[(0,.dat (.list bs)),(7,.dat (.list dx)),(8,aN),(9,aN)],[]⟩ 0 uh
def Nx:aV:=⟨43,⟨[(0,.dat (.list bs)),(1,.dat (.list dx))],[]⟩,uh,w2⟩
def Ny:bk:=cp [MK] [(0,Zt.go NM 0)] 0
theorem aaz:ca bg (Ny).Γ:=bT ⟨Zy,ag⟩
theorem apY:cL Ny Tryz.f43 0 0:=cT (ar:=Zt) (b:=Ab) (m:=[]) aaz ag
theorem aaA:a6 Nx:=cz (F:=Ny) (fn:=Tryz.f43) (m:=dw Tryz.f43 [0]) aaz Tryz.func43 ⟨apY,ag⟩
def U3:aV:=⟨173,⟨[(0,.dat ac),(1,.ptr 0 bs 0 [])],qz⟩,⟨[(0,du)],qz⟩,TB⟩
def alq:bk:=cp [vZ] [] 1
theorem aly:a6 U3:=cz (F:=alq) (fn:=Tryz.f173) (m:=[]) (bT ⟨zc,ag⟩) Tryz.func173 ag
def afb:bL:=⟨⟨[(0,.dat (.list ac)),(1,.fn 173 [] [(.ptr 0 bs 0 [])]),(7,aN),(8,aN)],qz⟩,.ret,⟨[(4,aN)],qz⟩,(.exit 0),⟨[],qz⟩⟩
def aeU:aV:=⟨116,⟨[(0,.dat (.list ac)),(1,.fn 173 [] [(.ptr 0 bs 0 [])])],qz⟩,⟨[(0,aN)],qz⟩,G5⟩
def PT:bk:=cp [U3] [(0,afb.go P0 1)] 1
theorem ae7:ca bg (PT).Γ:=bT ⟨aly,ag⟩
theorem avZ:cL PT Tryz.f116 0 0:=cT (ar:=afb) (b:=BK) (m:=[]) ae7 ag
theorem awn:a6 aeU:=cz (F:=PT) (fn:=Tryz.f116) (m:=dw Tryz.f116 [0]) ae7 Tryz.func116 ⟨avZ,ag⟩
def aeE:aV:=⟨71,⟨[(0,.dat (.list ac)),(1,.fn 173 [] [(.ptr 0 bs 0 [])])],qz⟩,⟨[(0,du)],qz⟩,ce⟩
def avF:bk:=cp [aeU] [] 1
theorem avJ:a6 aeE:=cz (F:=avF) (fn:=Tryz.f71) (m:=[]) (bT ⟨awn,ag⟩) Tryz.func71 ag
def S4:aV:=⟨172,⟨[(0,.dat bs),(1,.ptr 0 (.list ac) 0 [])],[.box 62 (.list ac) (.dat (.list ac))]⟩,⟨[(0,du)],[.box 62 (.list ac) (.dat (.list ac))]⟩,DO⟩
def amj:bk:=cp [aeE] [] 1
theorem Wa:a6 S4:=cz (F:=amj) (fn:=Tryz.f172) (m:=[]) (bT ⟨avJ,ag⟩) Tryz.func172 ag
def afl:bL:=⟨⟨[(0,.own bs 0),(1,.fn 172 [] [(.ptr 1 (.list ac) 0 [])]),(7,aN),(8,aN)],r3⟩,.ret,⟨[(4,aN)],r3⟩,(.exit 0),⟨[],r3⟩⟩
def afU:aV:=⟨219,⟨[(0,.own bs 0),(1,.fn 172 [] [(.ptr 1 (.list ac) 0 [])])],r3⟩,⟨[(0,aN)],r3⟩,xG⟩
def Qk:bk:=cp [S4] [(0,afl.go P6 2)] 2
theorem afG:ca bg (Qk).Γ:=bT ⟨Wa,ag⟩
theorem awF:cL Qk Tryz.f219 0 0:=cT (ar:=afl) (b:=By) (m:=[]) afG ag
theorem awO:a6 afU:=cz (F:=Qk) (fn:=Tryz.f219) (m:=dw Tryz.f219 [0]) afG Tryz.func219 ⟨awF,ag⟩
def ae0:bL:=dV ⟨[(0,.own bs 0),(1,.fn 172 [] [(.ptr 1 (.list ac) 0 [])]),(5,aN),(6,aN)],r3⟩ 0 ⟨[(0,.own bs 0),(5,aN)],r3⟩
def afp:aV:=⟨170,⟨[(0,.own bs 0),(1,.fn 172 [] [(.ptr 1 (.list ac) 0 [])])],r3⟩,⟨[(0,.own bs 2)],[.gone,.box 62 (.list ac) (.dat (.list ac)),.arr 58 bs false]⟩,BC⟩
def PL:bk:=cp [S4,afU] [(0,ae0.go Qd 2)] 2
theorem afu:ca bg (PL).Γ:=bT ⟨Wa,awO,ag⟩
theorem awf:cL PL Tryz.f170 0 0:=cT (ar:=ae0) (b:=xv) (m:=[]) afu ag
theorem awC:a6 afp:=cz (F:=PL) (fn:=Tryz.f170) (m:=dw Tryz.f170 [0]) afu Tryz.func170 ⟨awf,ag⟩
def Lf:aV:=⟨137,⟨[(0,.dat (.list bs)),(1,.dat (.list ac))],[]⟩,kx,ze⟩
theorem XN:a6 Lf:=cb (l:=[xH,afp]) Tryz.func137 ⟨Hv,awC,ag⟩
def RZ:Shape:=⟨[(0,.yld 1013600 0),(1,.dat bs)],[.loop 1013600 [(12,.ptr 1 (.list bs) 0 [])],.box 64 (.list bs) (.own bs 2),.arr 58 bs false]⟩
def R0:Shape:=⟨[(0,du)],[.loop 1013600 [(12,.ptr 1 (.list bs) 0 [])],.box 64 (.list bs) (.own bs 3),.gone,.arr 58 bs false]⟩
def agf:aV:=⟨1013600,RZ,R0,Ip⟩
def agh:bk:=cp [] [] 3
theorem axP (d:RZ.ty.den): @Eq (N R0.ty.den) (sf agh gb 1013600 (kj Tryz.f136 0) RZ R0 d).val (Ip d):=by kernel_rfl
theorem axQ:a6 agf:=
  FB (F:=agh) (c:=kj Tryz.f136 0) ev (bT ag) eK (by kernel_rfl) (by kernel_rfl) (by kernel_rfl) (m:=[]) (by kernel_rfl) ag (by kernel_rfl) axP
def afc:bL:=⟨⟨[(0,.own ac 0),(1,.fn 169 [] [(.ptr 1 ac 0 [])]),(7,aN),(8,aN)],ug⟩,.ret,⟨[(4,aN)],ug⟩,(.exit 0),⟨[],ug⟩⟩
def aeV:aV:=⟨116,⟨[(0,.own ac 0),(1,.fn 169 [] [(.ptr 1 ac 0 [])])],ug⟩,⟨[(0,aN)],ug⟩,G6⟩
def PU:bk:=cp [agK] [(0,afc.go P1 2)] 2
theorem afA:ca bg (PU).Γ:=bT ⟨akx,ag⟩
theorem av0:cL PU Tryz.f116 0 0:=cT (ar:=afc) (b:=BL) (m:=[]) afA ag
theorem awo:a6 aeV:=cz (F:=PU) (fn:=Tryz.f116) (m:=dw Tryz.f116 [0]) afA Tryz.func116 ⟨av0,ag⟩
def aeF:aV:=⟨71,⟨[(0,.own ac 0),(1,.fn 169 [] [(.ptr 1 ac 0 [])])],ug⟩,⟨[(0,du)],ug⟩,BI⟩
def avG:bk:=cp [aeV] [] 2
theorem avK:a6 aeF:=cz (F:=avG) (fn:=Tryz.f71) (m:=[]) (bT ⟨awo,ag⟩) Tryz.func71 ag
def xK:bL:=⟨⟨[(0,.yld 1013600 0),(1,.ptr 1 .opq 0 []),(41,.own bs 8),(42,aN),(43,aN)],[.loop 1013600 [(12,.ptr 5 (.list bs) 0 [])],.box 141 .opq (.ptr 6 fK 0 []),.box 3 (.int .i64) aN,.box 39 ac (.dat ac),.box 62 (.list ac) (.dat (.list ac)),.box 64 (.list bs) (.own bs 9),.box 143 fK mD,.gone,.arr 58 bs false,.arr 58 bs false]⟩,.ret,Ko,(.exit 0),Ko⟩
def Sc:Shape:=⟨[(0,.yld 1013600 0),(1,.ptr 1 .opq 0 []),(2,.ptr 2 (.int .i64) 0 []),(3,.ptr 3 ac 0 []),(4,.ptr 4 (.list ac) 0 [])],[.loop 1013600 [(12,.ptr 5 (.list bs) 0 [])],.box 141 .opq (.ptr 6 fK 0 []),.box 3 (.int .i64) aN,.box 39 ac (.dat ac),.box 62 (.list ac) (.dat (.list ac)),.box 64 (.list bs) (.own bs 7),.box 143 fK mD,.arr 58 bs false]⟩
def Sd:Shape:=Ko
def Sb (cS:(cZ×aK×aq×bZ×Int×G)->N (aj×bZ×Int×G)):aV:=⟨135,Sc,Sd,sB cS⟩
def B7 (cS:(cZ×aK×aq×bZ×Int×G)->N (aj×bZ×Int×G)):bk:=cp [tn,tl,(pW cS),Nx,Lf,agf] [(0,xK.go (xM cS) 8)] 8
theorem ax1 (cS:(cZ×aK×aq×bZ×Int×G)->N (aj×bZ×Int×G)) (d:xK.S.ty.den): @Eq (N (xK.S.ty.den⊕xK.Out)) (xK.body (B7 cS) (hy (bX Tryz.f135) 0) 0 d).val (sx cS d):=by kernel_rfl
theorem akk (cS:(cZ×aK×aq×bZ×Int×G)->N (aj×bZ×Int×G)) (d:Sc.ty.den): @Eq (N Sd.ty.den) (mM (B7 cS) Tryz.f135 Sc Sd d).val (sB cS d):=by kernel_rfl
theorem agx (cS:(cZ×aK×aq×bZ×Int×G)->N (aj×bZ×Int×G)) (ku:cF bg (pW cS)):ca bg (B7 cS).Γ:=bT ⟨y9,yZ,(ku.x (by kernel_rfl)),aaA,XN,axQ,ag⟩
theorem ax4 (cS:(cZ×aK×aq×bZ×Int×G)->N (aj×bZ×Int×G)) (ku:cF bg (pW cS)):hl bg (B7 cS) Tryz.f135.ntmps 0 (hy (bX Tryz.f135) 0):=
  tP ev (agx cS ku) eK (ar:=xK) (f:=xM cS) (b:=sx cS) (m:=[]) (λ_=>rfl) (by kernel_rfl) (by kernel_rfl) ag (by kernel_rfl) (eN _ (by kernel_rfl)) (ax1 cS)
theorem akl (cS:(cZ×aK×aq×bZ×Int×G)->N (aj×bZ×Int×G)) (ku:cF bg (pW cS)):cF bg (Sb cS):=
  tO (F:=(B7 cS)) ev (agx cS ku) eK (fn:=Tryz.f135) (m:=dw Tryz.f135 [0]) Tryz.func135 (by kernel_rfl) (by kernel_rfl) (by kernel_rfl) ⟨ax4 cS ku,ag⟩ (eN _ (by kernel_rfl)) (by kernel_rfl) (akk cS)
theorem akg (cS:(cZ×aK×aq×bZ×Int×G)->N (aj×bZ×Int×G)) (ku:cF bg (pW cS)):qQ bg (Sb cS):=(akl cS ku).x (by kernel_rfl)
def xN:bL:=dV ⟨[(0,.ptr 0 fK 0 []),(5,.ptr 1 er 0 []),(6,.ptr 2 ac 0 []),(8,.dat (.list bs)),(9,.own ac 3),(16,.dat (.list ac)),(17,aN),(18,aN)],T7⟩ 0 ⟨[(0,.ptr 0 fK 0 []),(5,.ptr 1 er 0 []),(6,.ptr 2 ac 0 []),(8,.dat (.list bs)),(9,.own ac 3)],T7⟩
def xO:bL:=⟨⟨[(0,.ptr 0 fK 0 []),(5,.ptr 1 er 0 []),(8,.dat (.list bs)),(9,.own ac 2),(12,.ptr 3 (.list bs) 0 []),(31,.own ac 4),(32,aN),(33,aN)],[.box 143 fK mD,.box 85 er (.dat er),.arr 39 ac true,.box 64 (.list bs) (.own bs 5),.arr 39 ac false,.arr 58 bs false]⟩,.ret,⟨[(8,.dat (.list bs))],[.box 143 fK mD]⟩,(.exit 2),⟨[(12,.ptr 1 (.list bs) 0 [])],[.box 143 fK mD,.box 64 (.list bs) (.own bs 2),.arr 58 bs false]⟩⟩
def Sq:aV:=⟨136,yj,yk,IH⟩
def u9 (cS:(cZ×aK×aq×bZ×Int×G)->N (aj×bZ×Int×G)):bk:={cx:=hh,Γ:=hL [Mf,Sr,(pW cS),Lb,aeF,(Sb cS)],Λ:=λk st=>bif Nat.beq k 0 then xN.go (Iw cS) 1 st else bif Nat.beq k 2 then xO.go (Ix cS) 1 st else .fail,keep:=λ_=>none,m:=1,rfs:=λk=>bif Nat.beq k 13 then some 1013600 else none,its:=[135]}
theorem akq (cS:(cZ×aK×aq×bZ×Int×G)->N (aj×bZ×Int×G)) (d:xN.S.ty.den): @Eq (N (xN.S.ty.den⊕xN.Out)) (xN.body (u9 cS) (hy (bX Tryz.f136) 0) 0 d).val (ii cS d):=by kernel_rfl
theorem akr (cS:(cZ×aK×aq×bZ×Int×G)->N (aj×bZ×Int×G)) (d:xO.S.ty.den): @Eq (N (xO.S.ty.den⊕xO.Out)) (xO.body (u9 cS) (hy (bX Tryz.f136) 1) 2 d).val (u6 cS d):=by kernel_rfl
theorem akV (cS:(cZ×aK×aq×bZ×Int×G)->N (aj×bZ×Int×G)) (d:yj.ty.den): @Eq (N yk.ty.den) (mM (u9 cS) Tryz.f136 yj yk d).val (CU cS d):=by kernel_rfl
theorem Sp (cS:(cZ×aK×aq×bZ×Int×G)->N (aj×bZ×Int×G)) (ku:cF bg (pW cS)):ca bg (u9 cS).Γ:=bT ⟨YX,ag9,(ku.x (by kernel_rfl)),aoB,avK,(akg cS ku),ag⟩
theorem akE (cS:(cZ×aK×aq×bZ×Int×G)->N (aj×bZ×Int×G)) (ku:cF bg (pW cS)):hl bg (u9 cS) Tryz.f136.ntmps 0 (hy (bX Tryz.f136) 0):=
  tP ev (Sp cS ku) eK (ar:=xN) (f:=Iw cS) (b:=ii cS) (m:=[]) (λ_=>rfl) (by kernel_rfl) (by kernel_rfl) ag (by kernel_rfl) (eN _ (by kernel_rfl)) (akq cS)
theorem akF (cS:(cZ×aK×aq×bZ×Int×G)->N (aj×bZ×Int×G)) (ku:cF bg (pW cS)):hl bg (u9 cS) Tryz.f136.ntmps 2 (hy (bX Tryz.f136) 1):=
  tP ev (Sp cS ku) eK (ar:=xO) (f:=Ix cS) (b:=u6 cS) (m:=[]) (λ_=>rfl) (by kernel_rfl) (by kernel_rfl) ag (by kernel_rfl) (AT (m:=[(13,kj Tryz.f136 0)]) (its:=[135]) (by kernel_rfl) ⟨A5 (Y:=1013600) (by kernel_rfl) (by kernel_rfl),ag⟩ (by kernel_rfl) ⟨⟨_,Tryz.func135,by kernel_rfl,by kernel_rfl⟩,ag⟩) (akr cS)
theorem akj (cS:(cZ×aK×aq×bZ×Int×G)->N (aj×bZ×Int×G)) (ku:cF bg (pW cS)):cF bg ⟨136,yj,yk,CU cS⟩:=
  tO (F:=(u9 cS)) ev (Sp cS ku) eK (fn:=Tryz.f136) (m:=dw Tryz.f136 [0,2]) Tryz.func136 (by kernel_rfl) (by kernel_rfl) (by kernel_rfl) ⟨akE cS ku,akF cS ku,ag⟩ (AT (m:=[(13,kj Tryz.f136 0)]) (its:=[135]) (by kernel_rfl) ⟨A5 (Y:=1013600) (by kernel_rfl) (by kernel_rfl),ag⟩ (by kernel_rfl) ⟨⟨_,Tryz.func135,by kernel_rfl,by kernel_rfl⟩,ag⟩) (by kernel_rfl) (akV cS)
theorem agw: ∀n,cF bg ⟨136,yj,yk,qU n⟩
  |0=>F5
  |n+1=>akj _ (agw n)
theorem akW:cF bg Sq:=agw kZ
theorem akX:a6 Sq:=(akW).x (by kernel_rfl)
def Sm:Shape:=⟨[(0,.yld 1002700 0),(1,.dat bs)],[.loop 1002700 [(7,.ptr 1 (.list bs) 0 [])],.box 64 (.list bs) (.own bs 2),.arr 58 bs false]⟩
def pu:Shape:=⟨[(0,du)],[.loop 1002700 [(7,.ptr 1 (.list bs) 0 [])],.box 64 (.list bs) (.own bs 3),.gone,.arr 58 bs false]⟩
def agS:aV:=⟨1002700,Sm,pu,IC⟩
def agT:bk:=cp [] [] 3
theorem akC (d:Sm.ty.den): @Eq (N pu.ty.den) (sf agT gb 1002700 (kj Tryz.f27 0) Sm pu d).val (IC d):=by kernel_rfl
theorem akD:a6 agS:=
  FB (F:=agT) (c:=kj Tryz.f27 0) ev (bT ag) eK (by kernel_rfl) (by kernel_rfl) (by kernel_rfl) (m:=[]) (by kernel_rfl) ag (by kernel_rfl) akC
def agE:bL:=⟨⟨[(0,.yld 1002700 0),(1,.ptr 1 .opq 0 []),(41,.own bs 7),(42,aN),(43,aN)],[.loop 1002700 [(7,.ptr 5 (.list bs) 0 [])],.box 141 .opq (.ptr 6 fK 0 []),.box 3 (.int .i64) aN,.box 39 ac (.dat ac),.box 62 (.list ac) (.dat (.list ac)),.box 64 (.list bs) (.own bs 8),.box 143 fK mD,.arr 58 bs false,.arr 58 bs false]⟩,.ret,Kp,(.exit 0),Kp⟩
def agL:aV:=⟨135,⟨[(0,.yld 1002700 0),(1,.ptr 1 .opq 0 []),(2,.ptr 2 (.int .i64) 0 []),(3,.ptr 3 ac 0 []),(4,.ptr 4 (.list ac) 0 [])],[.loop 1002700 [(7,.ptr 5 (.list bs) 0 [])],.box 141 .opq (.ptr 6 fK 0 []),.box 3 (.int .i64) aN,.box 39 ac (.dat ac),.box 62 (.list ac) (.dat (.list ac)),.box 64 (.list bs) (.nils 58 bs),.box 143 fK mD]⟩,Kp,vb⟩
def Sk:bk:=cp [tn,tl,Nx,Lf,Sq,agS] [(0,agE.go xP 7)] 7
theorem agZ:ca bg (Sk).Γ:=bT ⟨y9,yZ,aaA,XN,akX,akD,ag⟩
theorem aks:cL Sk Tryz.f135 0 0:=cT (ar:=agE) (b:=u5) (m:=[]) agZ ag
theorem aky:a6 agL:=cz (F:=Sk) (fn:=Tryz.f135) (m:=dw Tryz.f135 [0]) agZ Tryz.func135 ⟨aks,ag⟩
def vQ:Shape:=⟨[(0,.dat fY),(1,.dat ac)],[]⟩
def vR:Shape:=⟨[(0,.own bs 0),(1,aN)],n2⟩
def MS:aV:=⟨27,vQ,vR,lR⟩
def Zr:bk:={cx:=hh,Γ:=hL [Sr,agL],Λ:=λk st=>.fail,keep:=λ_=>none,m:=0,rfs:=λk=>bif Nat.beq k 4 then some 1002700 else none,its:=[135]}
theorem ap4 (d:vQ.ty.den): @Eq (N vR.ty.den) (mM Zr Tryz.f27 vQ vR d).val (lR d):=by kernel_rfl
theorem ZX:cF bg MS:=
  tO (F:=Zr) ev (bT ⟨ag9,aky,ag⟩) eK (fn:=Tryz.f27) (m:=[]) Tryz.func27 (by kernel_rfl) (by kernel_rfl) (by kernel_rfl) ag (AT (m:=[(4,kj Tryz.f27 0)]) (its:=[135]) (by kernel_rfl) ⟨A5 (Y:=1002700) (by kernel_rfl) (by kernel_rfl),ag⟩ (by kernel_rfl) ⟨⟨_,Tryz.func135,by kernel_rfl,by kernel_rfl⟩,ag⟩) (by kernel_rfl) ap4
theorem ap5:a6 MS:=(ZX).x (by kernel_rfl)
def Wr:bL:=⟨⟨[(0,.dat (.list bs)),(1,.dat (.list bs)),(5,aN)],[]⟩,.ret,zL,(.exit 0),⟨[],[]⟩⟩
def Dz:Shape:=Uc
def DB:Shape:=ez
def Ml:aV:=⟨29,Dz,DB,wh⟩
def LP:bk:=cp [] [(0,Wr.go L7 0)] 0
theorem Yy:ca bg (LP).Γ:=bT ag
theorem anZ:cL LP Tryz.f29 0 0:=cT (ar:=Wr) (b:=DH) (m:=[]) Yy ag
theorem Yz:cF bg Ml:=pJ (F:=LP) (fn:=Tryz.f29) (m:=dw Tryz.f29 [0]) Yy Tryz.func29 ⟨anZ,ag⟩
theorem aoi:a6 Ml:=Yz.x (by kernel_rfl)
def yH:Shape:=⟨[(0,.dat dC),(1,aN),(2,.dat ac),(3,aN)],[]⟩
def yJ:Shape:=iE
def Jf (fN:(bZ×Int×aK×Int×G)->N (Int×G)):aV:=⟨91,yH,yJ,fN⟩
def U4:bL:=⟨⟨[(9,.own iQ 0),(10,aN),(11,aN)],[.arr 93 iQ false]⟩,.ret,r0,(.exit 0),⟨[],[]⟩⟩
def VR:aV:=⟨182,wB,ez,JM⟩
def S5:bk:=cp [] [(0,U4.go S9 0)] 0
theorem VP:ca bg (S5).Γ:=bT ag
theorem alJ:cL S5 Tryz.f182 0 0:=cT (ar:=U4) (b:=C8) (m:=[]) VP ag
theorem al0:a6 VR:=cz (F:=S5) (fn:=Tryz.f182) (m:=dw Tryz.f182 [0]) VP Tryz.func182 ⟨alJ,ag⟩
def VD:bL:=⟨⟨[(0,.dat (.list bs)),(3,aN)],[]⟩,.ret,r0,(.exit 0),⟨[],[]⟩⟩
def Xq:aV:=⟨180,uh,ez,acl⟩
def Lp:bk:=cp [] [(0,VD.go LG 0)] 0
theorem XH:ca bg (Lp).Γ:=bT ag
theorem ana:cL Lp Tryz.f180 0 0:=cT (ar:=VD) (b:=Dv) (m:=[]) XH ag
theorem anL:a6 Xq:=cz (F:=Lp) (fn:=Tryz.f180) (m:=dw Tryz.f180 [0]) XH Tryz.func180 ⟨ana,ag⟩
def VQ:aV:=⟨179,EI,ez,JL⟩
theorem alZ:a6 VQ:=cb (l:=[]) Tryz.func179 ag
def Wc:aV:=⟨178,⟨[(0,.dat bs),(1,.ptr 0 ac 0 [])],jV⟩,⟨[(0,du)],jV⟩,MH⟩
def amk:bk:=cp [vZ,VQ] [] 1
theorem amt:a6 Wc:=cz (F:=amk) (fn:=Tryz.f178) (m:=[]) (bT ⟨zc,alZ,ag⟩) Tryz.func178 ag
end D
open Go Go.X Go.Proofs D
namespace D
def ae9:bL:=⟨⟨[(0,.dat (.list bs)),(1,.fn 178 [] [(.ptr 0 ac 0 [])]),(7,aN),(8,aN)],jV⟩,.ret,⟨[(4,aN)],jV⟩,(.exit 0),⟨[],jV⟩⟩
def aeS:aV:=⟨219,⟨[(0,.dat (.list bs)),(1,.fn 178 [] [(.ptr 0 ac 0 [])])],jV⟩,⟨[(0,aN)],jV⟩,P7⟩
def PR:bk:=cp [Wc] [(0,ae9.go PY 1)] 1
theorem ae5:ca bg (PR).Γ:=bT ⟨amt,ag⟩
theorem avX:cL PR Tryz.f219 0 0:=cT (ar:=ae9) (b:=BJ) (m:=[]) ae5 ag
theorem qr:a6 aeS:=cz (F:=PR) (fn:=Tryz.f219) (m:=dw Tryz.f219 [0]) ae5 Tryz.func219 ⟨avX,ag⟩
def aeR:aV:=⟨181,⟨[(0,.dat (.list bs)),(1,.fn 178 [] [(.ptr 0 ac 0 [])])],jV⟩,⟨[(0,du)],jV⟩,P5⟩
def awi:bk:=cp [aeS] [] 1
theorem awl:a6 aeR:=cz (F:=awi) (fn:=Tryz.f181) (m:=[]) (bT ⟨qr,ag⟩) Tryz.func181 ag
def Jd:aV:=⟨321,gr,ui,L1⟩
theorem VM:a6 Jd:=cb (l:=[]) Tryz.func321 ag
def I8:aV:=⟨334,gr,ui,LW⟩
theorem VH:a6 I8:=cb (l:=[]) Tryz.func334 ag
def IT:aV:=⟨345,gr,ui,K2⟩
theorem Vd:a6 IT:=cb (l:=[]) Tryz.func345 ag
def IW:aV:=⟨352,gr,⟨jI,cv⟩,K4⟩
theorem Vg:a6 IW:=cb (l:=[qd]) Tryz.func352 ⟨rq,ag⟩
def II:aV:=⟨362,gr,⟨jI,cv⟩,Tn⟩
theorem US:a6 II:=cb (l:=[qd]) Tryz.func362 ⟨rq,ag⟩
def IM:aV:=⟨368,gr,⟨jI,cv⟩,Ts⟩
theorem UZ:a6 IM:=cb (l:=[]) Tryz.func368 ag
def Ze:aV:=⟨187,gr,ui,rL⟩
noncomputable def aoU:bk:=l4 hh (E0 hh (hL [Jd,I8,IT,IW,II,IM]) 110 Tryz.f110 (hL [Jd,I8,IT,IW,II,IM])) (λk st=>.fail) 0
theorem ao6:a6 Ze:=cz (F:=aoU) (fn:=Tryz.f187) (m:=[]) (Fm (by kernel_rfl) (FJ (F:=(l4 hh (hL [Jd,I8,IT,IW,II,IM]) (λ_ _=>.fail) 0)) ev (bT ⟨VM,VH,Vd,Vg,US,UZ,ag⟩) eK Tryz.func110 (by kernel_rfl) (by kernel_rfl) (by kernel_rfl)) (bT ⟨VM,VH,Vd,Vg,US,UZ,ag⟩)) Tryz.func187 ag
def WN:aV:=⟨184,zF,ez,lc⟩
theorem anD:a6 WN:=cb (l:=[IA,ru,vZ]) Tryz.func184 ⟨SF,te,zc,ag⟩
def Te:aV:=⟨183,⟨[(0,.dat ac),(1,.ptr 0 ac 0 [])],jV⟩,⟨[(0,du)],jV⟩,DY⟩
def aml:bk:=cp [WN] [] 1
theorem WV:a6 Te:=cz (F:=aml) (fn:=Tryz.f183) (m:=[]) (bT ⟨anD,ag⟩) Tryz.func183 ag
def afd:bL:=⟨⟨[(0,.dat (.list ac)),(1,.fn 183 [] [(.ptr 0 ac 0 [])]),(7,aN),(8,aN)],jV⟩,.ret,⟨[(4,aN)],jV⟩,(.exit 0),⟨[],jV⟩⟩
def aeW:aV:=⟨116,⟨[(0,.dat (.list ac)),(1,.fn 183 [] [(.ptr 0 ac 0 [])])],jV⟩,⟨[(0,aN)],jV⟩,P9⟩
def PV:bk:=cp [Te] [(0,afd.go PD 1)] 1
theorem afB:ca bg (PV).Γ:=bT ⟨WV,ag⟩
theorem av1:cL PV Tryz.f116 0 0:=cT (ar:=afd) (b:=BM) (m:=[]) afB ag
theorem awp:a6 aeW:=cz (F:=PV) (fn:=Tryz.f116) (m:=dw Tryz.f116 [0]) afB Tryz.func116 ⟨av1,ag⟩
def aeG:aV:=⟨71,⟨[(0,.dat (.list ac)),(1,.fn 183 [] [(.ptr 0 ac 0 [])])],jV⟩,⟨[(0,du)],jV⟩,Hd⟩
def avH:bk:=cp [aeW] [] 1
theorem avL:a6 aeG:=cz (F:=avH) (fn:=Tryz.f71) (m:=[]) (bT ⟨awp,ag⟩) Tryz.func71 ag
def afe:bL:=⟨⟨[(0,.own ac 0),(1,.fn 183 [] [(.ptr 1 ac 0 [])]),(7,aN),(8,aN)],uf⟩,.ret,⟨[(4,aN)],uf⟩,(.exit 0),⟨[],uf⟩⟩
def aeX:aV:=⟨116,⟨[(0,.own ac 0),(1,.fn 183 [] [(.ptr 1 ac 0 [])])],uf⟩,⟨[(0,aN)],uf⟩,Qa⟩
def PW:bk:=cp [Te] [(0,afe.go PE 2)] 2
theorem afC:ca bg (PW).Γ:=bT ⟨WV,ag⟩
theorem av2:cL PW Tryz.f116 0 0:=cT (ar:=afe) (b:=BO) (m:=[]) afC ag
theorem awq:a6 aeX:=cz (F:=PW) (fn:=Tryz.f116) (m:=dw Tryz.f116 [0]) afC Tryz.func116 ⟨av2,ag⟩
def aeH:aV:=⟨71,⟨[(0,.own ac 0),(1,.fn 183 [] [(.ptr 1 ac 0 [])])],uf⟩,⟨[(0,du)],uf⟩,He⟩
def avI:bk:=cp [aeX] [] 2
theorem avM:a6 aeH:=cz (F:=avI) (fn:=Tryz.f71) (m:=[]) (bT ⟨awq,ag⟩) Tryz.func71 ag
def Wd:aV:=⟨186,⟨[(0,.dat dx),(1,.ptr 0 .opq 0 [])],qA⟩,⟨[(0,du)],qA⟩,JV⟩
def amm:bk:=cp [X4,ML,Ze,aeG,aeH] [] 2
theorem amM:a6 Wd:=cz (F:=amm) (fn:=Tryz.f186) (m:=[]) (bT ⟨an3,Zz,ao6,avL,avM,ag⟩) Tryz.func186 ag
def ae2:bL:=⟨⟨[(0,.dat (.list dx)),(1,.fn 186 [] [(.ptr 0 .opq 0 [])]),(7,aN),(8,aN)],qA⟩,.ret,⟨[(4,aN)],qA⟩,(.exit 0),⟨[],qA⟩⟩
def afr:aV:=⟨115,⟨[(0,.dat (.list dx)),(1,.fn 186 [] [(.ptr 0 .opq 0 [])])],qA⟩,⟨[(0,aN)],qA⟩,io⟩
def PN:bk:=cp [Wd] [(0,ae2.go Qf 2)] 2
theorem afw:ca bg (PN).Γ:=bT ⟨amM,ag⟩
theorem awh:cL PN Tryz.f115 0 0:=cT (ar:=ae2) (b:=Bv) (m:=[]) afw ag
theorem awE:a6 afr:=cz (F:=PN) (fn:=Tryz.f115) (m:=dw Tryz.f115 [0]) afw Tryz.func115 ⟨awh,ag⟩
def afo:aV:=⟨185,⟨[(0,.dat (.list dx)),(1,.fn 186 [] [(.ptr 0 .opq 0 [])])],qA⟩,⟨[(0,du)],qA⟩,Hz⟩
def awI:bk:=cp [afr] [] 2
theorem awB:a6 afo:=cz (F:=awI) (fn:=Tryz.f185) (m:=[]) (bT ⟨awE,ag⟩) Tryz.func185 ag
def Wl:bL:=⟨⟨[(2,.ptr 0 er 0 []),(3,.ptr 1 ac 0 []),(6,cW),(67,.dat (.list .str)),(68,aN),(69,aN)],Ez⟩,.ret,zL,(.exit 0),⟨[(2,.ptr 0 er 0 []),(3,.ptr 1 ac 0 [])],Ez⟩⟩
end D
