/- Entries, by program. -/
import Derived.Test.YtmmmpanpbphkdaaGreatDoorEa
set_option linter.unusedVariables false
set_option maxRecDepth 100000
open Go Go.X Go.Proofs D
namespace D
def ae3 : Lp := Lp1 ⟨[(4, .ptr 0 ak 0 []), (6, .ptr 1 ak 0 []), (7, .own (.int .i64) 2)], [.box 32 ak Qp, .box 32 ak (.agg [(.own aK 3)]), .arr 3 (.int .i64) false, .arr 87 aK false]⟩ 0 ⟨[(4, .ptr 0 ak 0 []), (6, .ptr 1 ak 0 [])], Qz⟩
def ai9 : Ent := ⟨64, QK, QK, ak6⟩
def abV : Fx := AFl [wM, zX] [(0, ae3.go aj3 0)] 0
theorem aj2 : aC Tryz.prog (abV).Γ := ai ⟨ac5, ahs, trivial⟩
theorem aoS : LA abV Tryz.f64 0 0 := Als (L := ae3) (b := aj1) (m := []) aj2 trivial
theorem aqA : AX ai9 := Afs (F := abV) (fn := Tryz.f64) (m := lp Tryz.f64 [0]) aj2 Tryz.func64 ⟨aoS, trivial⟩
def mM : Ent := ⟨62, ⟨[(0, .dat (.list aj))], []⟩, ⟨[(0, .clip aj)], []⟩, pw⟩
theorem uQ : AX mM := Af0 (l := []) Tryz.func62 trivial
def vv : Shape := ⟨[(0, .dat aN), (1, .dat aj)], []⟩
def vz : Shape := ⟨[(0, .dat aN), (1, DI)], []⟩
def aqZ : Ent := ⟨15, vv, vz, aox⟩
def arb : Fx := AF0 [n9, lY, aei, abN, abM, ai9, mM]
theorem asc : EntOK Tryz.prog aqZ := Afk (F := arb) (fn := Tryz.f15) (m := []) (ai ⟨sS, qX, alo, ajq, ajp, aqA, uQ, trivial⟩) Tryz.func15 trivial
def abg : Lp := Lp1 ⟨[(1, .ptr 0 aN 0 []), (3, .ptr 1 aw 0 []), (5, DI)], [.box 36 aN (.dat aN), .box 85 aw (.dat aw)]⟩ 0 ⟨[(5, DI)], []⟩
def pM : Shape := Rv
def pP : Shape := Qr
def xD : Ent := ⟨17, pM, pP, nH⟩
def xR : Fx := AFl [n9, lY] [(0, abg.go yY 0)] 0
theorem afO : aC Tryz.prog (xR).Γ := ai ⟨sS, qX, trivial⟩
theorem aml : LA xR Tryz.f17 0 0 := Als (L := abg) (b := qs) (m := []) afO trivial
theorem afP : EntOK Tryz.prog xD := Afk (F := xR) (fn := Tryz.f17) (m := lp Tryz.f17 [0]) afO Tryz.func17 ⟨aml, trivial⟩
theorem aoz : AX xD := afP.x (by kernel_rfl)
def pK : Shape := ⟨[], []⟩
def pN : Shape := Rv
def am0 : Ent := ⟨80, pK, pN, aeR⟩
def am1 : Fx := AF0 [abR, aab]
theorem anj : EntOK Tryz.prog am0 := Afk (F := am1) (fn := Tryz.f80) (m := []) (ai ⟨ajE, ahA, trivial⟩) Tryz.func80 trivial
def oD : Ent := ⟨85, ⟨[(0, .ptr 0 aB 0 []), (1, DI), (2, .dat ac), (3, .dat (.list ac))], [.box 143 aB QD]⟩, ⟨[(0, .fn 135 [] [(.ptr 1 .opq 0 []), (.ptr 2 (.int .i64) 0 []), (.ptr 3 ac 0 []), (.ptr 4 (.list ac) 0 [])])], [.box 143 aB QD, .box 141 .opq (.ptr 0 aB 0 []), .box 3 (.int .i64) DI, .box 39 ac (.dat ac), .box 62 (.list ac) (.dat (.list ac))]⟩, sA⟩
def adN : Fx := AFl [] [] 1
theorem u7 : AX oD := Afs (F := adN) (fn := Tryz.f85) (m := []) (ai trivial) Tryz.func85 trivial
def eH : Shape := ⟨[(0, .ptr 0 aB 0 []), (1, .dat aw), (2, .dat ac), (3, .dat (.list ac))], [.box 143 aB QD]⟩
def eI : Shape := ⟨[(0, .dat (.list af))], [.box 143 aB QD]⟩
def b9 (tree_scanner_below_r : (api_Node × aa × (List aa) × ah × Int × Unit) -> Option ((List ae) × ah × Int × Unit)) : Ent := ⟨136, eH, eI, tree_scanner_below_r⟩
def fG : Ent := ⟨234, QP, ⟨Qy, Qb⟩, nd⟩
def tf : Fx := ail Acx (dm []) (fun _ _ => .fail) 0
theorem tp : EntOK Tryz.prog fG :=
  ap1 (F := tf) fe (ai trivial) bz (fn := Tryz.f234) Tryz.func234 (by kernel_rfl) (by kernel_rfl) (by kernel_rfl) (by kernel_rfl) (by kernel_rfl) (fun s => (decide ((List.length ([] : List aa) + List.length s.1) * 32 <= am))) (fun s => (s.1, ())) (fun s => ([], ())) (fun s => List.length s.1) (fun s => rfl) (fun s => by kernel_rfl) (fun s => by kernel_rfl) (fun s h => congrArg (fun l => (l, ())) (List.eq_nil_of_length_eq_zero h).symm)
theorem tq : AX fG := tp.x (by kernel_rfl)
def fU : Lp := ⟨⟨[(0, .own ac 0), (1, .fn 74 [] []), (7, DI), (8, DI)], Qb⟩, .ret, ⟨[(4, DI)], Qb⟩, (.exit 0), ⟨[], Qb⟩⟩
def gN : Ent := ⟨116, ⟨[(0, .own ac 0), (1, .fn 74 [] [])], Qb⟩, ⟨[(0, DI)], Qb⟩, j6⟩
def cZ : Fx := AFl [iJ] [(0, fU.go ia 1)] 1
theorem hX : aC Tryz.prog (cZ).Γ := ai ⟨kG, trivial⟩
theorem oh : LA cZ Tryz.f116 0 0 := Als (L := fU) (b := hQ) (m := []) hX trivial
theorem oN : AX gN := Afs (F := cZ) (fn := Tryz.f116) (m := lp Tryz.f116 [0]) hX Tryz.func116 ⟨oh, trivial⟩
def gV : Lp := Lp1 ⟨[(0, .own ac 0), (1, .fn 74 [] []), (5, DI), (6, DI)], Qb⟩ 0 ⟨[(0, .own ac 0), (5, DI)], Qb⟩
def iO : Ent := ⟨233, ⟨[(0, .own ac 0), (1, .fn 74 [] [])], Qb⟩, ⟨[(0, .own ac 1)], [.gone, .arr 39 ac false]⟩, kr⟩
def dB : Fx := AFl [iJ, gN] [(0, gV.go iZ 1)] 1
theorem iY : aC Tryz.prog (dB).Γ := ai ⟨kG, oN, trivial⟩
theorem p7 : LA dB Tryz.f233 0 0 := Als (L := gV) (b := iX) (m := []) iY trivial
theorem qj : AX iO := Afs (F := dB) (fn := Tryz.f233) (m := lp Tryz.f233 [0]) iY Tryz.func233 ⟨p7, trivial⟩
def xx : Ent := ⟨269, Rw, Qr, ad5⟩
theorem aik : AX xx := Af0 (l := []) Tryz.func269 trivial
def u9 : Ent := ⟨252, Rw, Qr, aas⟩
theorem abu : AX u9 := Af0 (l := [xx]) Tryz.func252 ⟨aik, trivial⟩
def bM : Shape := ⟨QQ, Qb⟩
def bN : Shape := ⟨[], Qb⟩
def aZ (slices_pdqsortCmpFunc_api_Span_r : (Int × Int × Int × (List aa) × Unit) -> Option ((List aa) × Unit)) : Ent := ⟨251, bM, bN, slices_pdqsortCmpFunc_api_Span_r⟩
def un : Ent := ⟨237, Qj, Qr, xZ⟩
theorem adO : AX un := Af0 (l := [rh]) Tryz.func237 ⟨wG, trivial⟩
def iR : Ent := ⟨236, QW, Qr, dK⟩
theorem lH : AX iR := Af0 (l := [un]) Tryz.func236 ⟨adO, trivial⟩
def gv : Lp := Lp1 ⟨[(0, .own ac 0), (1, DI), (2, DI), (3, .fn 236 [] []), (8, DI), (9, DI)], Qb⟩ 2 ⟨[(0, .own ac 0), (1, DI), (2, DI), (3, .fn 236 [] []), (8, DI)], Qb⟩
def gu : Lp := Lp1 ⟨[(0, .own ac 0), (1, DI), (2, DI), (3, .fn 236 [] []), (8, DI)], Qb⟩ 0 ⟨[], Qb⟩
def i8 : Ent := ⟨260, ⟨QB, Qb⟩, ⟨[], Qb⟩, jS⟩
def ck : Fx := AFl [iR] [(2, gv.go iI 1), (0, gu.go iH 1)] 1
theorem dp : aC Tryz.prog (ck).Γ := ai ⟨lH, trivial⟩
theorem im : LA ck Tryz.f260 2 1 := Als (L := gv) (b := iG) (m := []) dp trivial
theorem oT : LA ck Tryz.f260 0 0 := Als (L := gu) (b := iF) (m := [(2, fI (au Tryz.f260) 1)]) dp ⟨im, trivial⟩
theorem pA : AX i8 := Afs (F := ck) (fn := Tryz.f260) (m := lp Tryz.f260 [0, 2]) dp Tryz.func260 ⟨oT, im, trivial⟩
def jN : Lp := ⟨⟨[(0, .own ac 0), (2, DI), (3, DI), (4, .fn 236 [] []), (10, DI)], Qb⟩, (.exit 0), ⟨[], Qb⟩, .ret, ⟨[], Qb⟩⟩
def kV : Ent := ⟨283, ⟨QQ, Qb⟩, ⟨[], Qb⟩, gI⟩
def fk : Fx := AFl [iR] [(0, jN.go lG 1)] 1
theorem lF : aC Tryz.prog (fk).Γ := ai ⟨lH, trivial⟩
theorem rX : LA fk Tryz.f283 0 0 := Als (L := jN) (b := lE) (m := []) lF trivial
theorem s7 : AX kV := Afs (F := fk) (fn := Tryz.f283) (m := lp Tryz.f283 [0]) lF Tryz.func283 ⟨rX, trivial⟩
def jL : Lp := Lp1 ⟨[(0, .own ac 0), (3, .fn 236 [] []), (8, DI), (9, DI), (10, DI), (11, DI)], Qb⟩ 0 ⟨[(0, .own ac 0), (3, .fn 236 [] []), (8, DI), (9, DI), (10, DI)], Qb⟩
def jM : Lp := Lp1 ⟨[(0, .own ac 0), (3, .fn 236 [] []), (8, DI), (9, DI), (12, DI)], Qb⟩ 2 ⟨[], Qb⟩
def kU : Ent := ⟨261, ⟨QB, Qb⟩, ⟨[], Qb⟩, mI⟩
def cK : Fx := AFl [kV] [(0, jL.go lC 1), (2, jM.go lD 1)] 1
theorem fq : aC Tryz.prog (cK).Γ := ai ⟨s7, trivial⟩
theorem rU : LA cK Tryz.f261 0 0 := Als (L := jL) (b := lA) (m := []) fq trivial
theorem rV : LA cK Tryz.f261 2 1 := Als (L := jM) (b := lB) (m := []) fq trivial
theorem s5 : AX kU := Afs (F := cK) (fn := Tryz.f261) (m := lp Tryz.f261 [0, 2]) fq Tryz.func261 ⟨rU, rV, trivial⟩
def lX : Ent := ⟨296, ⟨[(0, .own ac 0), (1, DI), (2, DI), (3, .ptr 1 (.int .i64) 0 []), (4, .fn 236 [] [])], QM⟩, ⟨[(0, DI), (1, DI)], QM⟩, eB⟩
def tE : Fx := AFl [iR] [] 2
theorem ug : AX lX := Afs (F := tE) (fn := Tryz.f296) (m := []) (ai ⟨lH, trivial⟩) Tryz.func296 trivial
def fQ : Ent := ⟨287, ⟨[(0, .own ac 0), (1, DI), (2, DI), (3, DI), (4, .ptr 1 (.int .i64) 0 []), (5, .fn 236 [] [])], QM⟩, ⟨[(0, DI)], QM⟩, jb⟩
def tD : Fx := AFl [lX] [] 2
theorem mi : AX fQ := Afs (F := tD) (fn := Tryz.f287) (m := []) (ai ⟨ug, trivial⟩) Tryz.func287 trivial
def gS : Ent := ⟨286, ⟨[(0, .own ac 0), (1, DI), (2, .ptr 1 (.int .i64) 0 []), (3, .fn 236 [] [])], QM⟩, ⟨[(0, DI)], QM⟩, cz⟩
def oF : Fx := AFl [fQ] [] 2
theorem oU : AX gS := Afs (F := oF) (fn := Tryz.f286) (m := []) (ai ⟨mi, trivial⟩) Tryz.func286 trivial
def jl : Ent := ⟨263, ⟨QB, Qb⟩, ⟨[(0, DI), (1, DI)], Qb⟩, l9⟩
def qG : Fx := AFl [fQ, gS] [] 1
theorem qR : AX jl := Afs (F := qG) (fn := Tryz.f263) (m := []) (ai ⟨mi, oU, trivial⟩) Tryz.func263 trivial
def gX : Lp := Lp1 ⟨[(0, .own ac 0), (8, DI), (9, DI)], Qb⟩ 0 ⟨[], Qb⟩
def iQ : Ent := ⟨264, ⟨QB, Qb⟩, ⟨[], Qb⟩, kF⟩
def dD : Fx := AFl [] [(0, gX.go jf 1)] 1
theorem je : aC Tryz.prog (dD).Γ := ai trivial
theorem pB : LA dD Tryz.f264 0 0 := Als (L := gX) (b := jd) (m := []) je trivial
theorem qo : AX iQ := Afs (F := dD) (fn := Tryz.f264) (m := lp Tryz.f264 [0]) je Tryz.func264 ⟨pB, trivial⟩

end D
open Go Go.X Go.Proofs D
namespace D
def dZ : Lp := Lp1 ⟨Qx, Qb⟩ 2 ⟨Qx, Qb⟩
def ee : Lp := Lp1 ⟨[(0, .own ac 0), (1, DI), (2, DI), (3, .fn 236 [] []), (9, DI), (10, DI), (11, DI)], Qb⟩ 4 ⟨Qx, Qb⟩
def eh : Lp := Lp1 ⟨[(0, .own ac 0), (1, DI), (2, DI), (3, .fn 236 [] []), (9, DI), (10, DI), (12, DI)], Qb⟩ 6 ⟨Qx, Qb⟩
def dY : Lp := ⟨⟨Qx, Qb⟩, .ret, ⟨[(8, DB)], Qb⟩, (.exit 0), ⟨[], Qb⟩⟩
def eK : Ent := ⟨265, ⟨QB, Qb⟩, ⟨[(0, DB)], Qb⟩, fP⟩
def aV : Fx := AFl [iR] [(2, dZ.go eX 1), (4, ee.go eY 1), (6, eh.go eZ 1), (0, dY.go eW 1)] 1
theorem bt : aC Tryz.prog (aV).Γ := ai ⟨lH, trivial⟩
theorem eC : LA aV Tryz.f265 2 1 := Als (L := dZ) (b := eS) (m := []) bt trivial
theorem eD : LA aV Tryz.f265 4 2 := Als (L := ee) (b := eU) (m := []) bt trivial
theorem eE : LA aV Tryz.f265 6 3 := Als (L := eh) (b := eV) (m := []) bt trivial
theorem mj : LA aV Tryz.f265 0 0 := Als (L := dY) (b := eR) (m := [(2, fI (au Tryz.f265) 1), (4, fI (au Tryz.f265) 2), (6, fI (au Tryz.f265) 3)]) bt ⟨eC, eD, eE, trivial⟩
theorem mD : AX eK := Afs (F := aV) (fn := Tryz.f265) (m := lp Tryz.f265 [0, 2, 4, 6]) bt Tryz.func265 ⟨mj, eC, eD, eE, trivial⟩
def ga : Lp := Lp1 ⟨QC, Qb⟩ 2 ⟨QC, Qb⟩
def gb : Lp := Lp1 ⟨QC, Qb⟩ 4 ⟨QC, Qb⟩
def fZ : Lp := Lp1 ⟨QC, Qb⟩ 0 ⟨[(11, DI)], Qb⟩
def gT : Ent := ⟨266, ⟨QQ, Qb⟩, ⟨[(0, DI)], Qb⟩, jA⟩
def bD : Fx := AFl [iR] [(2, ga.go iu 1), (4, gb.go iv 1), (0, fZ.go ir 1)] 1
theorem cd : aC Tryz.prog (bD).Γ := ai ⟨lH, trivial⟩
theorem gD : LA bD Tryz.f266 2 1 := Als (L := ga) (b := ip) (m := []) cd trivial
theorem gE : LA bD Tryz.f266 4 2 := Als (L := gb) (b := iq) (m := []) cd trivial
theorem oo : LA bD Tryz.f266 0 0 := Als (L := fZ) (b := io) (m := [(2, fI (au Tryz.f266) 1), (4, fI (au Tryz.f266) 2)]) cd ⟨gD, gE, trivial⟩
theorem oV : AX gT := Afs (F := bD) (fn := Tryz.f266) (m := lp Tryz.f266 [0, 2, 4]) cd Tryz.func266 ⟨oo, gD, gE, trivial⟩
def jn : Lp := Lp1 ⟨Qo, Qb⟩ 0 ⟨Qo, Qb⟩
def jo : Lp := Lp1 ⟨Qo, Qb⟩ 2 ⟨Qo, Qb⟩
def jq : Lp := Lp1 ⟨Qo, Qb⟩ 6 ⟨Qo, Qb⟩
def jr : Lp := Lp1 ⟨Qo, Qb⟩ 8 ⟨Qo, Qb⟩
def jp : Lp := Lp1 ⟨Qo, Qb⟩ 4 ⟨[(0, .own ac 0), (1, DI), (13, DI)], Qb⟩
def kg : Ent := ⟨267, ⟨QQ, Qb⟩, ⟨[(0, DI), (1, DB)], Qb⟩, mn⟩
def bq : Fx := AFl [iR] [(0, jn.go kA 1), (2, jo.go kB 1), (6, jq.go kD 1), (8, jr.go kE 1), (4, jp.go kC 1)] 1
theorem bB : aC Tryz.prog (bq).Γ := ai ⟨lH, trivial⟩
theorem ry : LA bq Tryz.f267 0 0 := Als (L := jn) (b := kw) (m := []) bB trivial
theorem rz : LA bq Tryz.f267 2 1 := Als (L := jo) (b := kx) (m := []) bB trivial
theorem jT : LA bq Tryz.f267 6 3 := Als (L := jq) (b := kz) (m := []) bB trivial
theorem jU : LA bq Tryz.f267 8 4 := Als (L := jr) (b := k9) (m := []) bB trivial
theorem rA : LA bq Tryz.f267 4 2 := Als (L := jp) (b := ky) (m := [(6, fI (au Tryz.f267) 3), (8, fI (au Tryz.f267) 4)]) bB ⟨jT, jU, trivial⟩
theorem rW : AX kg := Afs (F := bq) (fn := Tryz.f267) (m := lp Tryz.f267 [0, 2, 4, 6, 8]) bB Tryz.func267 ⟨ry, rz, rA, jT, jU, trivial⟩
def rE : Ent := ⟨284, Qr, Rw, ur⟩
theorem aa4 : AX rE := Af0 (l := [u9]) Tryz.func284 ⟨abu, trivial⟩
def sC : Ent := ⟨285, ⟨[(0, .ptr 0 (.int .u64) 0 [])], [.box 315 (.int .u64) (.dat (.int .u64))]⟩, ⟨[(0, .dat (.int .u64))], [.box 315 (.int .u64) (.dat (.int .u64))]⟩, vL⟩
def aaU : Fx := AFl [] [] 1
theorem abE : AX sC := Afs (F := aaU) (fn := Tryz.f285) (m := []) (ai trivial) Tryz.func285 trivial
def gr : Lp := Lp1 ⟨[(0, .own ac 0), (1, DI), (8, DI), (9, .ptr 1 (.int .u64) 0 []), (10, .dat (.int .u64)), (11, DI)], [.arr 39 ac false, .box 315 (.int .u64) (.dat (.int .u64))]⟩ 0 ⟨[], Qb⟩
def i7 : Ent := ⟨262, ⟨QB, Qb⟩, ⟨[], Qb⟩, jR⟩
def dn : Fx := AFl [rE, sC] [(0, gr.go iE 1)] 1
theorem iD : aC Tryz.prog (dn).Γ := ai ⟨aa4, abE, trivial⟩
theorem oS : LA dn Tryz.f262 0 0 := Als (L := gr) (b := iC) (m := []) iD trivial
theorem p9 : AX i7 := Afs (F := dn) (fn := Tryz.f262) (m := lp Tryz.f262 [0]) iD Tryz.func262 ⟨oS, trivial⟩
def aL : Lp := ⟨⟨[(0, .own ac 0), (1, DI), (2, DI), (3, DI), (4, .fn 236 [] []), (10, DB), (11, DB), (12, DI), (13, DI), (75, DB)], Qb⟩, .nrm, ⟨Rd, Qb⟩, .ret, ⟨[], Qb⟩⟩
def aM : Lp := ⟨⟨[(0, .own ac 0), (1, DI), (2, DI), (3, DI), (4, .fn 236 [] []), (10, DB), (11, DB), (12, DI), (13, DI), (97, DB)], Qb⟩, .nrm, ⟨Rp, Qb⟩, (.exit 1), ⟨Qu, Qb⟩⟩
def aU : Lp := ⟨⟨Rp, Qb⟩, .nrm, ⟨Qu, Qb⟩, (.exit 90000020), ⟨[], []⟩⟩
def aT : Lp := ⟨⟨Rd, Qb⟩, .nrm, ⟨Qu, Qb⟩, (.exit 1), ⟨Qu, Qb⟩⟩
def bA : Lp := ⟨⟨Qu, Qb⟩, .ret, ⟨[], Qb⟩, (.exit 80000000), ⟨[], []⟩⟩
def fH : Ent := ⟨251, bM, bN, nf⟩
def a8 (slices_pdqsortCmpFunc_api_Span_r : (Int × Int × Int × (List aa) × Unit) -> Option ((List aa) × Unit)) : Fx := AFl [(aZ slices_pdqsortCmpFunc_api_Span_r), iR, i8, kU, jl, iQ, eK, gT, kg, i7] [(0, bA.go (fK slices_pdqsortCmpFunc_api_Span_r) 1)] 1
def aH (slices_pdqsortCmpFunc_api_Span_r : (Int × Int × Int × (List aa) × Unit) -> Option ((List aa) × Unit)) : aeC := [(100016, aL.go (aR slices_pdqsortCmpFunc_api_Span_r) 1), (100018, aM.go (bh slices_pdqsortCmpFunc_api_Span_r) 1), (20, aU.go (bv slices_pdqsortCmpFunc_api_Span_r) 1), (17, aT.go (bi slices_pdqsortCmpFunc_api_Span_r) 1)]
theorem oq (slices_pdqsortCmpFunc_api_Span_r : (Int × Int × Int × (List aa) × Unit) -> Option ((List aa) × Unit)) (s : aL.S.ty.den) : @Eq (Option aL.Out) ((evK (a8 slices_pdqsortCmpFunc_api_Span_r) (aH slices_pdqsortCmpFunc_api_Span_r) (bf (au Tryz.f251) 100016) 1 (aL.S.enc s)).bind fun (e, st) => aL.out (a8 slices_pdqsortCmpFunc_api_Span_r).m e st).val (aR slices_pdqsortCmpFunc_api_Span_r s) := by kernel_rfl
theorem ou (slices_pdqsortCmpFunc_api_Span_r : (Int × Int × Int × (List aa) × Unit) -> Option ((List aa) × Unit)) (s : aM.S.ty.den) : @Eq (Option aM.Out) ((evK (a8 slices_pdqsortCmpFunc_api_Span_r) (aH slices_pdqsortCmpFunc_api_Span_r) (bf (au Tryz.f251) 100018) 1 (aM.S.enc s)).bind fun (e, st) => aM.out (a8 slices_pdqsortCmpFunc_api_Span_r).m e st).val (bh slices_pdqsortCmpFunc_api_Span_r s) := by kernel_rfl
theorem qU (slices_pdqsortCmpFunc_api_Span_r : (Int × Int × Int × (List aa) × Unit) -> Option ((List aa) × Unit)) (s : aU.S.ty.den) : @Eq (Option aU.Out) ((evK (a8 slices_pdqsortCmpFunc_api_Span_r) (aH slices_pdqsortCmpFunc_api_Span_r) (bf (au Tryz.f251) 20) 1 (aU.S.enc s)).bind fun (e, st) => aU.out (a8 slices_pdqsortCmpFunc_api_Span_r).m e st).val (bv slices_pdqsortCmpFunc_api_Span_r s) := by kernel_rfl
theorem qS (slices_pdqsortCmpFunc_api_Span_r : (Int × Int × Int × (List aa) × Unit) -> Option ((List aa) × Unit)) (s : aT.S.ty.den) : @Eq (Option aT.Out) ((evK (a8 slices_pdqsortCmpFunc_api_Span_r) (aH slices_pdqsortCmpFunc_api_Span_r) (bf (au Tryz.f251) 17) 1 (aT.S.enc s)).bind fun (e, st) => aT.out (a8 slices_pdqsortCmpFunc_api_Span_r).m e st).val (bi slices_pdqsortCmpFunc_api_Span_r s) := by kernel_rfl
theorem rB (slices_pdqsortCmpFunc_api_Span_r : (Int × Int × Int × (List aa) × Unit) -> Option ((List aa) × Unit)) (s : bA.S.ty.den) : @Eq (Option (bA.S.ty.den ⊕ bA.Out)) (bA.bodyK (a8 slices_pdqsortCmpFunc_api_Span_r) (aH slices_pdqsortCmpFunc_api_Span_r) (fI (au Tryz.f251) 0) 0 s).val (fJ slices_pdqsortCmpFunc_api_Span_r s) := by kernel_rfl
theorem tt (slices_pdqsortCmpFunc_api_Span_r : (Int × Int × Int × (List aa) × Unit) -> Option ((List aa) × Unit)) (s : bM.ty.den) : @Eq (Option bN.ty.den) (aje (a8 slices_pdqsortCmpFunc_api_Span_r) (aH slices_pdqsortCmpFunc_api_Span_r) Tryz.f251 bM bN s).val (fb slices_pdqsortCmpFunc_api_Span_r s) := by kernel_rfl
theorem bO (slices_pdqsortCmpFunc_api_Span_r : (Int × Int × Int × (List aa) × Unit) -> Option ((List aa) × Unit)) (slices_pdqsortCmpFunc_api_Span_r_ok : EntOK Tryz.prog (aZ slices_pdqsortCmpFunc_api_Span_r)) : aC Tryz.prog (a8 slices_pdqsortCmpFunc_api_Span_r).Γ := ai ⟨(slices_pdqsortCmpFunc_api_Span_r_ok.x (by kernel_rfl)), lH, pA, s5, qR, qo, mD, oV, rW, p9, trivial⟩
theorem ot (slices_pdqsortCmpFunc_api_Span_r : (Int × Int × Int × (List aa) × Unit) -> Option ((List aa) × Unit)) (slices_pdqsortCmpFunc_api_Span_r_ok : EntOK Tryz.prog (aZ slices_pdqsortCmpFunc_api_Span_r)) : lN Tryz.prog (a8 slices_pdqsortCmpFunc_api_Span_r) Tryz.f251.ntmps (aL.go (aR slices_pdqsortCmpFunc_api_Span_r) 1) (bf (au Tryz.f251) 100016) :=
  cw fe (bO slices_pdqsortCmpFunc_api_Span_r slices_pdqsortCmpFunc_api_Span_r_ok) bz (L := aL) (k := 1) (f := aR slices_pdqsortCmpFunc_api_Span_r) (C := (aH slices_pdqsortCmpFunc_api_Span_r)) (l := []) (m := []) (by kernel_rfl) trivial (by kernel_rfl) trivial (by kernel_rfl) (bd _ (by kernel_rfl)) (oq slices_pdqsortCmpFunc_api_Span_r)
theorem ov (slices_pdqsortCmpFunc_api_Span_r : (Int × Int × Int × (List aa) × Unit) -> Option ((List aa) × Unit)) (slices_pdqsortCmpFunc_api_Span_r_ok : EntOK Tryz.prog (aZ slices_pdqsortCmpFunc_api_Span_r)) : lN Tryz.prog (a8 slices_pdqsortCmpFunc_api_Span_r) Tryz.f251.ntmps (aM.go (bh slices_pdqsortCmpFunc_api_Span_r) 1) (bf (au Tryz.f251) 100018) :=
  cw fe (bO slices_pdqsortCmpFunc_api_Span_r slices_pdqsortCmpFunc_api_Span_r_ok) bz (L := aM) (k := 1) (f := bh slices_pdqsortCmpFunc_api_Span_r) (C := (aH slices_pdqsortCmpFunc_api_Span_r)) (l := []) (m := []) (by kernel_rfl) trivial (by kernel_rfl) trivial (by kernel_rfl) (bd _ (by kernel_rfl)) (ou slices_pdqsortCmpFunc_api_Span_r)
theorem qV (slices_pdqsortCmpFunc_api_Span_r : (Int × Int × Int × (List aa) × Unit) -> Option ((List aa) × Unit)) (slices_pdqsortCmpFunc_api_Span_r_ok : EntOK Tryz.prog (aZ slices_pdqsortCmpFunc_api_Span_r)) : lN Tryz.prog (a8 slices_pdqsortCmpFunc_api_Span_r) Tryz.f251.ntmps (aU.go (bv slices_pdqsortCmpFunc_api_Span_r) 1) (bf (au Tryz.f251) 20) :=
  cw fe (bO slices_pdqsortCmpFunc_api_Span_r slices_pdqsortCmpFunc_api_Span_r_ok) bz (L := aU) (k := 1) (f := bv slices_pdqsortCmpFunc_api_Span_r) (C := (aH slices_pdqsortCmpFunc_api_Span_r)) (l := []) (m := []) (by kernel_rfl) trivial (by kernel_rfl) trivial (by kernel_rfl) (bd _ (by kernel_rfl)) (qU slices_pdqsortCmpFunc_api_Span_r)
theorem qT (slices_pdqsortCmpFunc_api_Span_r : (Int × Int × Int × (List aa) × Unit) -> Option ((List aa) × Unit)) (slices_pdqsortCmpFunc_api_Span_r_ok : EntOK Tryz.prog (aZ slices_pdqsortCmpFunc_api_Span_r)) : lN Tryz.prog (a8 slices_pdqsortCmpFunc_api_Span_r) Tryz.f251.ntmps (aT.go (bi slices_pdqsortCmpFunc_api_Span_r) 1) (bf (au Tryz.f251) 17) :=
  cw fe (bO slices_pdqsortCmpFunc_api_Span_r slices_pdqsortCmpFunc_api_Span_r_ok) bz (L := aT) (k := 1) (f := bi slices_pdqsortCmpFunc_api_Span_r) (C := (aH slices_pdqsortCmpFunc_api_Span_r)) (l := []) (m := [(aM.go (bh slices_pdqsortCmpFunc_api_Span_r) 1, bf (au Tryz.f251) 100018), (aU.go (bv slices_pdqsortCmpFunc_api_Span_r) 1, bf (au Tryz.f251) 20)]) (by kernel_rfl) trivial (by kernel_rfl) ⟨ov slices_pdqsortCmpFunc_api_Span_r slices_pdqsortCmpFunc_api_Span_r_ok, qV slices_pdqsortCmpFunc_api_Span_r slices_pdqsortCmpFunc_api_Span_r_ok, trivial⟩ (by kernel_rfl) (bd _ (by kernel_rfl)) (qS slices_pdqsortCmpFunc_api_Span_r)
theorem s6 (slices_pdqsortCmpFunc_api_Span_r : (Int × Int × Int × (List aa) × Unit) -> Option ((List aa) × Unit)) (slices_pdqsortCmpFunc_api_Span_r_ok : EntOK Tryz.prog (aZ slices_pdqsortCmpFunc_api_Span_r)) : lc Tryz.prog (a8 slices_pdqsortCmpFunc_api_Span_r) Tryz.f251.ntmps 0 (fI (au Tryz.f251) 0) :=
  asE fe (bO slices_pdqsortCmpFunc_api_Span_r slices_pdqsortCmpFunc_api_Span_r_ok) bz (L := bA) (f := fK slices_pdqsortCmpFunc_api_Span_r) (b := fJ slices_pdqsortCmpFunc_api_Span_r) (C := (aH slices_pdqsortCmpFunc_api_Span_r)) (l := []) (m := [(aL.go (aR slices_pdqsortCmpFunc_api_Span_r) 1, bf (au Tryz.f251) 100016), (aT.go (bi slices_pdqsortCmpFunc_api_Span_r) 1, bf (au Tryz.f251) 17)]) (fun _ => rfl) (by kernel_rfl) (by kernel_rfl) trivial (by kernel_rfl) ⟨ot slices_pdqsortCmpFunc_api_Span_r slices_pdqsortCmpFunc_api_Span_r_ok, qT slices_pdqsortCmpFunc_api_Span_r slices_pdqsortCmpFunc_api_Span_r_ok, trivial⟩ (by kernel_rfl) (bd _ (by kernel_rfl)) (rB slices_pdqsortCmpFunc_api_Span_r)
theorem qn (slices_pdqsortCmpFunc_api_Span_r : (Int × Int × Int × (List aa) × Unit) -> Option ((List aa) × Unit)) (slices_pdqsortCmpFunc_api_Span_r_ok : EntOK Tryz.prog (aZ slices_pdqsortCmpFunc_api_Span_r)) : EntOK Tryz.prog ⟨251, bM, bN, fb slices_pdqsortCmpFunc_api_Span_r⟩ :=
  uF (C := (aH slices_pdqsortCmpFunc_api_Span_r)) (F := (a8 slices_pdqsortCmpFunc_api_Span_r)) fe (bO slices_pdqsortCmpFunc_api_Span_r slices_pdqsortCmpFunc_api_Span_r_ok) bz (fn := Tryz.f251) (l := [(0, fI (au Tryz.f251) 0)]) (m := []) Tryz.func251 (by kernel_rfl) (by kernel_rfl) (by kernel_rfl) ⟨s6 slices_pdqsortCmpFunc_api_Span_r slices_pdqsortCmpFunc_api_Span_r_ok, trivial⟩ (by kernel_rfl) trivial (bd _ (by kernel_rfl)) (by kernel_rfl) (tt slices_pdqsortCmpFunc_api_Span_r)
theorem jc : ∀ n, EntOK Tryz.prog ⟨251, bM, bN, fa n⟩
  | 0 => ajc
  | n + 1 => qn _ (jc n)
theorem tu : EntOK Tryz.prog fH := jc aco
theorem tv : AX fH := (tu).x (by kernel_rfl)
def jI : Ent := ⟨235, ⟨[(0, .own ac 0), (1, .fn 236 [] [])], Qb⟩, ⟨[], Qb⟩, lS⟩
def rj : Fx := AFl [u9, fH] [] 1
theorem rv : AX jI := Afs (F := rj) (fn := Tryz.f235) (m := []) (ai ⟨abu, tv, trivial⟩) Tryz.func235 trivial
def aeA : Lp := Lp1 ⟨[(4, .own ac 0), (13, .own ac 1), (14, DI), (15, DI)], [.arr 39 ac false, .arr 39 ac false]⟩ 0 ⟨[(4, .own ac 0)], Qb⟩
def wN : Ent := ⟨213, QP, ⟨Qy, Qb⟩, abF⟩
def abX : Fx := AFl [mL, fG, iO, jI] [(0, aeA.go ajP 0)] 0
theorem ajO : aC Tryz.prog (abX).Γ := ai ⟨rC, tq, qj, rv, trivial⟩
theorem apq : LA abX Tryz.f213 0 0 := Als (L := aeA) (b := ajN) (m := []) ajO trivial
theorem acN : AX wN := Afs (F := abX) (fn := Tryz.f213) (m := lp Tryz.f213 [0]) ajO Tryz.func213 ⟨apq, trivial⟩
def aeB : Lp := ⟨⟨[(3, .own ac 0), (4, DS), (7, .dat (.list ac)), (8, DI), (9, DI)], Qb⟩, .ret, ⟨[(2, .own ac 0)], Qb⟩, (.exit 0), ⟨[(3, .own ac 0), (4, DS)], Qb⟩⟩
def aiG : Ent := ⟨238, QP, ⟨Qy, Qb⟩, apK⟩
def abY : Fx := AFl [] [(0, aeB.go ajS 0)] 0
theorem ajR : aC Tryz.prog (abY).Γ := ai trivial
theorem aps : LA abY Tryz.f238 0 0 := Als (L := aeB) (b := ajQ) (m := []) ajR trivial
theorem aqN : AX aiG := Afs (F := abY) (fn := Tryz.f238) (m := lp Tryz.f238 [0]) ajR Tryz.func238 ⟨aps, trivial⟩
def ady : Lp := Lp1 ⟨[(0, .dat (.list ac)), (5, .own ac 0), (7, .ptr 1 ac 0 []), (12, .own ac 2), (13, DI), (14, DI), (18, .dat (.list ac)), (19, DI), (20, DI)], [.arr 39 ac false, .box 39 ac (.dat ac), .arr 39 ac false]⟩ 2 Q0
def adx : Lp := Lp1 Q0 0 ⟨[(5, .own ac 0)], Qb⟩
def agS : Ent := ⟨215, ⟨[(0, .dat (.list ac)), (1, .dat (.list ac))], []⟩, ⟨Qy, Qb⟩, aod⟩
def uY : Fx := AFl [tz, wN, aiG] [(2, ady.go ahG 0), (0, adx.go ahF 0)] 0
theorem aa5 : aC Tryz.prog (uY).Γ := ai ⟨xj, acN, aqN, trivial⟩
theorem af2 : LA uY Tryz.f215 2 1 := Als (L := ady) (b := ahE) (m := []) aa5 trivial
theorem aoe : LA uY Tryz.f215 0 0 := Als (L := adx) (b := ahD) (m := [(2, fI (au Tryz.f215) 1)]) aa5 ⟨af2, trivial⟩
theorem apo : AX agS := Afs (F := uY) (fn := Tryz.f215) (m := lp Tryz.f215 [0, 2]) aa5 Tryz.func215 ⟨aoe, af2, trivial⟩
def aaO : Ent := ⟨214, ⟨[(0, .dat (.list ac)), (1, .ptr 0 (.list ac) 0 [])], [.box 62 (.list ac) (.own ac 1), .arr 39 ac false]⟩, ⟨[(0, .own ac 2)], [.box 62 (.list ac) (.own ac 1), .arr 39 ac true, .arr 39 ac false]⟩, vl⟩
def akg : Fx := AFl [agS] [] 2
theorem akP : AX aaO := Afs (F := akg) (fn := Tryz.f214) (m := []) (ai ⟨apo, trivial⟩) Tryz.func214 trivial
def aez : Ent := ⟨218, ⟨[(0, .dat ac), (1, DS), (2, DS)], []⟩, QJ, al5⟩
theorem aov : AX aez := Af0 (l := [eL, uW]) Tryz.func218 ⟨gk, aa6, trivial⟩
def sH : Lp := Lp1 ⟨[(5, .ptr 1 (.list ac) 0 []), (7, .ptr 3 aj 0 []), (9, .ptr 4 ac 0 []), (11, .own ac 5), (60, .own ac 2), (61, DI), (62, DI)], [.loop 1016800 Rq, .box 62 (.list ac) (.own ac 2), .arr 39 ac true, .box 41 aj (.dat aj), .box 39 ac (.dat ac), .arr 39 ac false]⟩ 3 ⟨[(5, .ptr 1 (.list ac) 0 []), (11, .own ac 3)], [.loop 1016800 Rq, .box 62 (.list ac) (.own ac 2), .arr 39 ac true, .arr 39 ac false]⟩
def oG : Shape := ⟨[(0, .yld 1016800 0), (1, DI), (2, .dat aj)], [.loop 1016800 Rq, .box 62 (.list ac) (.own ac 2), .arr 39 ac false]⟩
def oH : Shape := ⟨[(0, DB)], [.loop 1016800 Rq, .box 62 (.list ac) (.own ac 3), .gone, .arr 39 ac false]⟩
def uq : Ent := ⟨1016800, oG, oH, s9⟩
def lL : Fx := AFl [iJ, tz, vm, eL, wN, aaO, aez] [(3, sH.go u6 3)] 3
theorem aea (s : oG.ty.den) : @Eq (Option oH.ty.den) (akZ lL evC 1016800 (ac7 Tryz.f168 0) oG oH s).val (s9 s) := by kernel_rfl
theorem uy : aC Tryz.prog (lL).Γ := ai ⟨kG, xj, zG, gk, acN, akP, aov, trivial⟩
theorem acW : lc Tryz.prog lL Tryz.f168.ntmps 3 (fI (awq Tryz.f168 0) 0) := Als (L := sH) (b := ux) (m := []) uy trivial
theorem aeb : AX uq :=
  acL (F := lL) (c := ac7 Tryz.f168 0) fe uy bz (by kernel_rfl) (by kernel_rfl) (by kernel_rfl) (m := [(3, fI (awq Tryz.f168 0) 0)]) (by kernel_rfl) ⟨acW, trivial⟩ (by kernel_rfl) aea
def fS : Lp := ⟨⟨[(0, .yld 1016800 0), (1, .ptr 1 (.list aj) 0 []), (3, DI)], Qq⟩, .ret, ⟨[], Qq⟩, (.exit 0), ⟨[], Qq⟩⟩
def gK : Ent := ⟨209, ⟨[(0, .yld 1016800 0), (1, .ptr 1 (.list aj) 0 [])], [.loop 1016800 [(5, .ptr 2 (.list ac) 0 [])], .box 83 (.list aj) (.dat (.list aj)), .box 62 (.list ac) (.own ac 3), .arr 39 ac false]⟩, ⟨[], Qq⟩, jy⟩
def cX : Fx := AFl [uq] [(0, fS.go hH 4)] 4
theorem gZ : aC Tryz.prog (cX).Γ := ai ⟨aeb, trivial⟩
theorem oe : LA cX Tryz.f209 0 0 := Als (L := fS) (b := gY) (m := []) gZ trivial
theorem oK : AX gK := Afs (F := cX) (fn := Tryz.f209) (m := lp Tryz.f209 [0]) gZ Tryz.func209 ⟨oe, trivial⟩
def xU : Shape := ⟨[(0, .dat ac), (1, .dat (.list aj))], []⟩
def xV : Shape := ⟨Qy, Qb⟩
def xA : Ent := ⟨168, xU, xV, afI⟩
def ae1 : Fx := { cx := Acx, Γ := dm [fi, wN, gK], Λ := fun k st => .fail, keep := fun _ => none, m := 0, rfs := fun k => bif Nat.beq k 3 then some 1016800 else none, its := [209] }
theorem aor (s : xU.ty.den) : @Eq (Option xV.ty.den) (ajd ae1 Tryz.f168 xU xV s).val (afI s) := by kernel_rfl
theorem aos : EntOK Tryz.prog xA :=
  sO (F := ae1) fe (ai ⟨ll, acN, oK, trivial⟩) bz (fn := Tryz.f168) (m := []) Tryz.func168 (by kernel_rfl) (by kernel_rfl) (by kernel_rfl) trivial (ajJ (m := [(3, ac7 Tryz.f168 0)]) (its := [209]) (by kernel_rfl) ⟨anW (Y := 1016800) (by kernel_rfl) (by kernel_rfl), trivial⟩ (by kernel_rfl) ⟨⟨_, Tryz.func209, by kernel_rfl, by kernel_rfl⟩, trivial⟩) (by kernel_rfl) aor
theorem aot : AX xA := (aos).x (by kernel_rfl)
def sE : Ent := ⟨169, ⟨[(0, .dat ac), (1, .ptr 0 ac 0 [])], Qt⟩, ⟨[(0, DB)], Qt⟩, vZ⟩
def aaV : Fx := AFl [iJ, tz] [] 1
theorem abI : AX sE := Afs (F := aaV) (fn := Tryz.f169) (m := []) (ai ⟨kG, xj, trivial⟩) Tryz.func169 trivial

end D
open Go Go.X Go.Proofs D
namespace D
def aiP : Lp := Lp1 ⟨[(0, .dat (.list af)), (7, .dat (.list aj)), (8, DI), (9, DI)], []⟩ 0 QO
def ahT : Ent := ⟨43, ⟨[(0, .dat (.list af)), (1, .dat (.list aj))], []⟩, QO, aqy⟩
def ahU : Fx := AFl [abM] [(0, aiP.go ann 0)] 0
theorem anm : aC Tryz.prog (ahU).Γ := ai ⟨ajp, trivial⟩
theorem arD : LA ahU Tryz.f43 0 0 := Als (L := aiP) (b := anl) (m := []) anm trivial
theorem ano : AX ahT := Afs (F := ahU) (fn := Tryz.f43) (m := lp Tryz.f43 [0]) anm Tryz.func43 ⟨arD, trivial⟩
def xG : Ent := ⟨173, ⟨[(0, .dat ac), (1, .ptr 0 af 0 [])], QT⟩, ⟨[(0, DB)], QT⟩, adL⟩
def ahW : Fx := AFl [pD] [] 1
theorem ai5 : AX xG := Afs (F := ahW) (fn := Tryz.f173) (m := []) (ai ⟨sX, trivial⟩) Tryz.func173 trivial
def fV : Lp := ⟨⟨[(0, .dat (.list ac)), (1, .fn 173 [] [(.ptr 0 af 0 [])]), (7, DI), (8, DI)], QT⟩, .ret, ⟨[(4, DI)], QT⟩, (.exit 0), ⟨[], QT⟩⟩
def gO : Ent := ⟨116, ⟨[(0, .dat (.list ac)), (1, .fn 173 [] [(.ptr 0 af 0 [])])], QT⟩, ⟨[(0, DI)], QT⟩, j7⟩
def da : Fx := AFl [xG] [(0, fV.go ie 1)] 1
theorem ic : aC Tryz.prog (da).Γ := ai ⟨ai5, trivial⟩
theorem oi : LA da Tryz.f116 0 0 := Als (L := fV) (b := ib) (m := []) ic trivial
theorem oO : AX gO := Afs (F := da) (fn := Tryz.f116) (m := lp Tryz.f116 [0]) ic Tryz.func116 ⟨oi, trivial⟩
def fL : Ent := ⟨71, ⟨[(0, .dat (.list ac)), (1, .fn 173 [] [(.ptr 0 af 0 [])])], QT⟩, ⟨[(0, DB)], QT⟩, hJ⟩
def np : Fx := AFl [gO] [] 1
theorem nv : AX fL := Afs (F := np) (fn := Tryz.f71) (m := []) (ai ⟨oO, trivial⟩) Tryz.func71 trivial
def uB : Ent := ⟨172, ⟨[(0, .dat af), (1, .ptr 0 (.list ac) 0 [])], [.box 62 (.list ac) (.dat (.list ac))]⟩, ⟨[(0, DB)], [.box 62 (.list ac) (.dat (.list ac))]⟩, aaE⟩
def akm : Fx := AFl [fL] [] 1
theorem abK : AX uB := Afs (F := akm) (fn := Tryz.f172) (m := []) (ai ⟨nv, trivial⟩) Tryz.func172 trivial
def iA : Lp := ⟨⟨[(0, .own af 0), (1, .fn 172 [] [(.ptr 1 (.list ac) 0 [])]), (7, DI), (8, DI)], Qs⟩, .ret, ⟨[(4, DI)], Qs⟩, (.exit 0), ⟨[], Qs⟩⟩
def jj : Ent := ⟨219, ⟨[(0, .own af 0), (1, .fn 172 [] [(.ptr 1 (.list ac) 0 [])])], Qs⟩, ⟨[(0, DI)], Qs⟩, lz⟩
def dQ : Fx := AFl [uB] [(0, iA.go j1 2)] 2
theorem j0 : aC Tryz.prog (dQ).Γ := ai ⟨abK, trivial⟩
theorem ql : LA dQ Tryz.f219 0 0 := Als (L := iA) (b := jz) (m := []) j0 trivial
theorem qP : AX jj := Afs (F := dQ) (fn := Tryz.f219) (m := lp Tryz.f219 [0]) j0 Tryz.func219 ⟨ql, trivial⟩
def gU : Lp := Lp1 ⟨[(0, .own af 0), (1, .fn 172 [] [(.ptr 1 (.list ac) 0 [])]), (5, DI), (6, DI)], Qs⟩ 0 ⟨[(0, .own af 0), (5, DI)], Qs⟩
def iN : Ent := ⟨170, ⟨[(0, .own af 0), (1, .fn 172 [] [(.ptr 1 (.list ac) 0 [])])], Qs⟩, ⟨[(0, .own af 2)], [.gone, .box 62 (.list ac) (.dat (.list ac)), .arr 58 af false]⟩, kq⟩
def dA : Fx := AFl [uB, jj] [(0, gU.go iW 2)] 2
theorem iV : aC Tryz.prog (dA).Γ := ai ⟨abK, qP, trivial⟩
theorem pz : LA dA Tryz.f170 0 0 := Als (L := gU) (b := iU) (m := []) iV trivial
theorem qi : AX iN := Afs (F := dA) (fn := Tryz.f170) (m := lp Tryz.f170 [0]) iV Tryz.func170 ⟨pz, trivial⟩
def xF : Ent := ⟨137, ⟨[(0, .dat (.list af)), (1, .dat (.list ac))], []⟩, Qg, zS⟩
theorem afS : AX xF := Af0 (l := [bL, iN]) Tryz.func137 ⟨cQ, qi, trivial⟩
def gF : Shape := ⟨[(0, .yld 1013600 0), (1, .dat af)], [.loop 1013600 [(12, .ptr 1 (.list af) 0 [])], .box 64 (.list af) (.own af 2), .arr 58 af false]⟩
def gG : Shape := ⟨[(0, DB)], [.loop 1013600 [(12, .ptr 1 (.list af) 0 [])], .box 64 (.list af) (.own af 3), .gone, .arr 58 af false]⟩
def mE : Ent := ⟨1013600, gF, gG, jF⟩
def mF : Fx := AFl [] [] 3
theorem ul (s : gF.ty.den) : @Eq (Option gG.ty.den) (akZ mF evC 1013600 (ac7 Tryz.f136 0) gF gG s).val (jF s) := by kernel_rfl
theorem um : AX mE :=
  acL (F := mF) (c := ac7 Tryz.f136 0) fe (ai trivial) bz (by kernel_rfl) (by kernel_rfl) (by kernel_rfl) (m := []) (by kernel_rfl) trivial (by kernel_rfl) ul
def fW : Lp := ⟨⟨[(0, .own ac 0), (1, .fn 169 [] [(.ptr 1 ac 0 [])]), (7, DI), (8, DI)], QI⟩, .ret, ⟨[(4, DI)], QI⟩, (.exit 0), ⟨[], QI⟩⟩
def gP : Ent := ⟨116, ⟨[(0, .own ac 0), (1, .fn 169 [] [(.ptr 1 ac 0 [])])], QI⟩, ⟨[(0, DI)], QI⟩, j8⟩
def db : Fx := AFl [sE] [(0, fW.go ij 2)] 2
theorem ii : aC Tryz.prog (db).Γ := ai ⟨abI, trivial⟩
theorem oj : LA db Tryz.f116 0 0 := Als (L := fW) (b := ig) (m := []) ii trivial
theorem oP : AX gP := Afs (F := db) (fn := Tryz.f116) (m := lp Tryz.f116 [0]) ii Tryz.func116 ⟨oj, trivial⟩
def fM : Ent := ⟨71, ⟨[(0, .own ac 0), (1, .fn 169 [] [(.ptr 1 ac 0 [])])], QI⟩, ⟨[(0, DB)], QI⟩, hK⟩
def nq : Fx := AFl [gP] [] 2
theorem nz : AX fM := Afs (F := nq) (fn := Tryz.f71) (m := []) (ai ⟨oP, trivial⟩) Tryz.func71 trivial
def cl : Lp := ⟨⟨[(0, .yld 1013600 0), (1, .ptr 1 .opq 0 []), (41, .own af 8), (42, DI), (43, DI)], [.loop 1013600 [(12, .ptr 5 (.list af) 0 [])], .box 141 .opq (.ptr 6 aB 0 []), .box 3 (.int .i64) DI, .box 39 ac (.dat ac), .box 62 (.list ac) (.dat (.list ac)), .box 64 (.list af) (.own af 9), .box 143 aB QD, .gone, .arr 58 af false, .arr 58 af false]⟩, .ret, Qk, (.exit 0), Qk⟩
def kY : Shape := ⟨[(0, .yld 1013600 0), (1, .ptr 1 .opq 0 []), (2, .ptr 2 (.int .i64) 0 []), (3, .ptr 3 ac 0 []), (4, .ptr 4 (.list ac) 0 [])], [.loop 1013600 [(12, .ptr 5 (.list af) 0 [])], .box 141 .opq (.ptr 6 aB 0 []), .box 3 (.int .i64) DI, .box 39 ac (.dat ac), .box 62 (.list ac) (.dat (.list ac)), .box 64 (.list af) (.own af 7), .box 143 aB QD, .arr 58 af false]⟩
def kZ : Shape := Qk
def kW (tree_scanner_below_r : (api_Node × aa × (List aa) × ah × Int × Unit) -> Option ((List ae) × ah × Int × Unit)) : Ent := ⟨135, kY, kZ, nl tree_scanner_below_r⟩
def dF (tree_scanner_below_r : (api_Node × aa × (List aa) × ah × Int × Unit) -> Option ((List ae) × ah × Int × Unit)) : Fx := AFl [n9, lY, (b9 tree_scanner_below_r), ahT, xF, mE] [(0, cl.go (lJ tree_scanner_below_r) 8)] 8
theorem wd (tree_scanner_below_r : (api_Node × aa × (List aa) × ah × Int × Unit) -> Option ((List ae) × ah × Int × Unit)) (s : cl.S.ty.den) : @Eq (Option (cl.S.ty.den ⊕ cl.Out)) (cl.body (dF tree_scanner_below_r) (fI (au Tryz.f135) 0) 0 s).val (lI tree_scanner_below_r s) := by kernel_rfl
theorem zc (tree_scanner_below_r : (api_Node × aa × (List aa) × ah × Int × Unit) -> Option ((List ae) × ah × Int × Unit)) (s : kY.ty.den) : @Eq (Option kZ.ty.den) (ajd (dF tree_scanner_below_r) Tryz.f135 kY kZ s).val (nl tree_scanner_below_r s) := by kernel_rfl
theorem qw (tree_scanner_below_r : (api_Node × aa × (List aa) × ah × Int × Unit) -> Option ((List ae) × ah × Int × Unit)) (tree_scanner_below_r_ok : EntOK Tryz.prog (b9 tree_scanner_below_r)) : aC Tryz.prog (dF tree_scanner_below_r).Γ := ai ⟨sS, qX, (tree_scanner_below_r_ok.x (by kernel_rfl)), ano, afS, um, trivial⟩
theorem xk (tree_scanner_below_r : (api_Node × aa × (List aa) × ah × Int × Unit) -> Option ((List ae) × ah × Int × Unit)) (tree_scanner_below_r_ok : EntOK Tryz.prog (b9 tree_scanner_below_r)) : lc Tryz.prog (dF tree_scanner_below_r) Tryz.f135.ntmps 0 (fI (au Tryz.f135) 0) :=
  sQ fe (qw tree_scanner_below_r tree_scanner_below_r_ok) bz (L := cl) (f := lJ tree_scanner_below_r) (b := lI tree_scanner_below_r) (m := []) (fun _ => rfl) (by kernel_rfl) (by kernel_rfl) trivial (by kernel_rfl) (bd _ (by kernel_rfl)) (wd tree_scanner_below_r)
theorem zd (tree_scanner_below_r : (api_Node × aa × (List aa) × ah × Int × Unit) -> Option ((List ae) × ah × Int × Unit)) (tree_scanner_below_r_ok : EntOK Tryz.prog (b9 tree_scanner_below_r)) : EntOK Tryz.prog (kW tree_scanner_below_r) :=
  sO (F := (dF tree_scanner_below_r)) fe (qw tree_scanner_below_r tree_scanner_below_r_ok) bz (fn := Tryz.f135) (m := lp Tryz.f135 [0]) Tryz.func135 (by kernel_rfl) (by kernel_rfl) (by kernel_rfl) ⟨xk tree_scanner_below_r tree_scanner_below_r_ok, trivial⟩ (bd _ (by kernel_rfl)) (by kernel_rfl) (zc tree_scanner_below_r)
theorem ze (tree_scanner_below_r : (api_Node × aa × (List aa) × ah × Int × Unit) -> Option ((List ae) × ah × Int × Unit)) (tree_scanner_below_r_ok : EntOK Tryz.prog (b9 tree_scanner_below_r)) : apT Tryz.prog (kW tree_scanner_below_r) := (zd tree_scanner_below_r tree_scanner_below_r_ok).x (by kernel_rfl)
def dr : Lp := Lp1 ⟨[(0, .ptr 0 aB 0 []), (5, .ptr 1 aw 0 []), (6, .ptr 2 ac 0 []), (8, .dat (.list af)), (9, .own ac 3), (16, .dat (.list ac)), (17, DI), (18, DI)], Rm⟩ 0 ⟨[(0, .ptr 0 aB 0 []), (5, .ptr 1 aw 0 []), (6, .ptr 2 ac 0 []), (8, .dat (.list af)), (9, .own ac 3)], Rm⟩
def dt : Lp := ⟨⟨[(0, .ptr 0 aB 0 []), (5, .ptr 1 aw 0 []), (8, .dat (.list af)), (9, .own ac 2), (12, .ptr 3 (.list af) 0 []), (31, .own ac 4), (32, DI), (33, DI)], [.box 143 aB QD, .box 85 aw (.dat aw), .arr 39 ac true, .box 64 (.list af) (.own af 5), .arr 39 ac false, .arr 58 af false]⟩, .ret, ⟨[(8, .dat (.list af))], [.box 143 aB QD]⟩, (.exit 2), ⟨[(12, .ptr 1 (.list af) 0 [])], [.box 143 aB QD, .box 64 (.list af) (.own af 2), .arr 58 af false]⟩⟩
def oC : Ent := ⟨136, eH, eI, yZ⟩
def de (tree_scanner_below_r : (api_Node × aa × (List aa) × ah × Int × Unit) -> Option ((List ae) × ah × Int × Unit)) : Fx := { cx := Acx, Γ := dm [zU, oD, (b9 tree_scanner_below_r), xA, fM, (kW tree_scanner_below_r)], Λ := fun k st => bif Nat.beq k 0 then dr.go (oZ tree_scanner_below_r) 1 st else bif Nat.beq k 2 then dt.go (pc tree_scanner_below_r) 1 st else .fail, keep := fun _ => none, m := 1, rfs := fun k => bif Nat.beq k 13 then some 1013600 else none, its := [135] }
theorem aaB (tree_scanner_below_r : (api_Node × aa × (List aa) × ah × Int × Unit) -> Option ((List ae) × ah × Int × Unit)) (s : dr.S.ty.den) : @Eq (Option (dr.S.ty.den ⊕ dr.Out)) (dr.body (de tree_scanner_below_r) (fI (au Tryz.f136) 0) 0 s).val (oW tree_scanner_below_r s) := by kernel_rfl
theorem aaC (tree_scanner_below_r : (api_Node × aa × (List aa) × ah × Int × Unit) -> Option ((List ae) × ah × Int × Unit)) (s : dt.S.ty.den) : @Eq (Option (dt.S.ty.den ⊕ dt.Out)) (dt.body (de tree_scanner_below_r) (fI (au Tryz.f136) 1) 2 s).val (oX tree_scanner_below_r s) := by kernel_rfl
theorem aec (tree_scanner_below_r : (api_Node × aa × (List aa) × ah × Int × Unit) -> Option ((List ae) × ah × Int × Unit)) (s : eH.ty.den) : @Eq (Option eI.ty.den) (ajd (de tree_scanner_below_r) Tryz.f136 eH eI s).val (nj tree_scanner_below_r s) := by kernel_rfl
theorem oY (tree_scanner_below_r : (api_Node × aa × (List aa) × ah × Int × Unit) -> Option ((List ae) × ah × Int × Unit)) (tree_scanner_below_r_ok : EntOK Tryz.prog (b9 tree_scanner_below_r)) : aC Tryz.prog (de tree_scanner_below_r).Γ := ai ⟨ahl, u7, (tree_scanner_below_r_ok.x (by kernel_rfl)), aot, nz, (ze tree_scanner_below_r tree_scanner_below_r_ok), trivial⟩
theorem acZ (tree_scanner_below_r : (api_Node × aa × (List aa) × ah × Int × Unit) -> Option ((List ae) × ah × Int × Unit)) (tree_scanner_below_r_ok : EntOK Tryz.prog (b9 tree_scanner_below_r)) : lc Tryz.prog (de tree_scanner_below_r) Tryz.f136.ntmps 0 (fI (au Tryz.f136) 0) :=
  sQ fe (oY tree_scanner_below_r tree_scanner_below_r_ok) bz (L := dr) (f := oZ tree_scanner_below_r) (b := oW tree_scanner_below_r) (m := []) (fun _ => rfl) (by kernel_rfl) (by kernel_rfl) trivial (by kernel_rfl) (bd _ (by kernel_rfl)) (aaB tree_scanner_below_r)
theorem ada (tree_scanner_below_r : (api_Node × aa × (List aa) × ah × Int × Unit) -> Option ((List ae) × ah × Int × Unit)) (tree_scanner_below_r_ok : EntOK Tryz.prog (b9 tree_scanner_below_r)) : lc Tryz.prog (de tree_scanner_below_r) Tryz.f136.ntmps 2 (fI (au Tryz.f136) 1) :=
  sQ fe (oY tree_scanner_below_r tree_scanner_below_r_ok) bz (L := dt) (f := pc tree_scanner_below_r) (b := oX tree_scanner_below_r) (m := []) (fun _ => rfl) (by kernel_rfl) (by kernel_rfl) trivial (by kernel_rfl) (ajJ (m := [(13, ac7 Tryz.f136 0)]) (its := [135]) (by kernel_rfl) ⟨anW (Y := 1013600) (by kernel_rfl) (by kernel_rfl), trivial⟩ (by kernel_rfl) ⟨⟨_, Tryz.func135, by kernel_rfl, by kernel_rfl⟩, trivial⟩) (aaC tree_scanner_below_r)
theorem za (tree_scanner_below_r : (api_Node × aa × (List aa) × ah × Int × Unit) -> Option ((List ae) × ah × Int × Unit)) (tree_scanner_below_r_ok : EntOK Tryz.prog (b9 tree_scanner_below_r)) : EntOK Tryz.prog ⟨136, eH, eI, nj tree_scanner_below_r⟩ :=
  sO (F := (de tree_scanner_below_r)) fe (oY tree_scanner_below_r tree_scanner_below_r_ok) bz (fn := Tryz.f136) (m := lp Tryz.f136 [0, 2]) Tryz.func136 (by kernel_rfl) (by kernel_rfl) (by kernel_rfl) ⟨acZ tree_scanner_below_r tree_scanner_below_r_ok, ada tree_scanner_below_r tree_scanner_below_r_ok, trivial⟩ (ajJ (m := [(13, ac7 Tryz.f136 0)]) (its := [135]) (by kernel_rfl) ⟨anW (Y := 1013600) (by kernel_rfl) (by kernel_rfl), trivial⟩ (by kernel_rfl) ⟨⟨_, Tryz.func135, by kernel_rfl, by kernel_rfl⟩, trivial⟩) (by kernel_rfl) (aec tree_scanner_below_r)
theorem qu : ∀ n, EntOK Tryz.prog ⟨136, eH, eI, ni n⟩
  | 0 => ajc
  | n + 1 => za _ (qu n)
theorem aed : EntOK Tryz.prog oC := qu aco
theorem aee : AX oC := (aed).x (by kernel_rfl)
def nR : Shape := ⟨[(0, .yld 1002700 0), (1, .dat af)], [.loop 1002700 [(7, .ptr 1 (.list af) 0 [])], .box 64 (.list af) (.own af 2), .arr 58 af false]⟩
def nU : Shape := ⟨[(0, DB)], [.loop 1002700 [(7, .ptr 1 (.list af) 0 [])], .box 64 (.list af) (.own af 3), .gone, .arr 58 af false]⟩
def tB : Ent := ⟨1002700, nR, nU, rD⟩
def tF : Fx := AFl [] [] 3
theorem acX (s : nR.ty.den) : @Eq (Option nU.ty.den) (akZ tF evC 1002700 (ac7 Tryz.f27 0) nR nU s).val (rD s) := by kernel_rfl
theorem acY : AX tB :=
  acL (F := tF) (c := ac7 Tryz.f27 0) fe (ai trivial) bz (by kernel_rfl) (by kernel_rfl) (by kernel_rfl) (m := []) (by kernel_rfl) trivial (by kernel_rfl) acX
def re : Lp := ⟨⟨[(0, .yld 1002700 0), (1, .ptr 1 .opq 0 []), (41, .own af 7), (42, DI), (43, DI)], [.loop 1002700 [(7, .ptr 5 (.list af) 0 [])], .box 141 .opq (.ptr 6 aB 0 []), .box 3 (.int .i64) DI, .box 39 ac (.dat ac), .box 62 (.list ac) (.dat (.list ac)), .box 64 (.list af) (.own af 8), .box 143 aB QD, .arr 58 af false, .arr 58 af false]⟩, .ret, Ql, (.exit 0), Ql⟩
def sF : Ent := ⟨135, ⟨[(0, .yld 1002700 0), (1, .ptr 1 .opq 0 []), (2, .ptr 2 (.int .i64) 0 []), (3, .ptr 3 ac 0 []), (4, .ptr 4 (.list ac) 0 [])], [.loop 1002700 [(7, .ptr 5 (.list af) 0 [])], .box 141 .opq (.ptr 6 aB 0 []), .box 3 (.int .i64) DI, .box 39 ac (.dat ac), .box 62 (.list ac) (.dat (.list ac)), .box 64 (.list af) (.nils 58 af), .box 143 aB QD]⟩, Ql, wc⟩
def mO : Fx := AFl [n9, lY, ahT, xF, oC, tB] [(0, re.go nk 7)] 7
theorem td : aC Tryz.prog (mO).Γ := ai ⟨sS, qX, ano, afS, aee, acY, trivial⟩
theorem aaD : LA mO Tryz.f135 0 0 := Als (L := re) (b := tc) (m := []) td trivial
theorem abJ : AX sF := Afs (F := mO) (fn := Tryz.f135) (m := lp Tryz.f135 [0]) td Tryz.func135 ⟨aaD, trivial⟩
def nQ : Shape := ⟨[(0, .dat aN), (1, .dat ac)], []⟩
def nS : Shape := ⟨[(0, .own af 0), (1, DI)], QU⟩
def abT : Ent := ⟨27, nQ, nS, xv⟩
def aiN : Fx := { cx := Acx, Γ := dm [oD, sF], Λ := fun k st => .fail, keep := fun _ => none, m := 0, rfs := fun k => bif Nat.beq k 4 then some 1002700 else none, its := [135] }
theorem aqV (s : nQ.ty.den) : @Eq (Option nS.ty.den) (ajd aiN Tryz.f27 nQ nS s).val (xv s) := by kernel_rfl
theorem aka : EntOK Tryz.prog abT :=
  sO (F := aiN) fe (ai ⟨u7, abJ, trivial⟩) bz (fn := Tryz.f27) (m := []) Tryz.func27 (by kernel_rfl) (by kernel_rfl) (by kernel_rfl) trivial (ajJ (m := [(4, ac7 Tryz.f27 0)]) (its := [135]) (by kernel_rfl) ⟨anW (Y := 1002700) (by kernel_rfl) (by kernel_rfl), trivial⟩ (by kernel_rfl) ⟨⟨_, Tryz.func135, by kernel_rfl, by kernel_rfl⟩, trivial⟩) (by kernel_rfl) aqV
theorem aqW : AX abT := (aka).x (by kernel_rfl)
def adt : Lp := ⟨⟨[(0, .dat (.list af)), (1, .dat (.list af)), (5, DI)], []⟩, .ret, Rs, (.exit 0), ⟨[], []⟩⟩
def rI : Shape := RA
def rK : Shape := Qe
def ao6 : Ent := ⟨29, rI, rK, aix⟩
def aak : Fx := AFl [] [(0, adt.go ah5 0)] 0
theorem ah4 : aC Tryz.prog (aak).Γ := ai trivial
theorem anG : LA aak Tryz.f29 0 0 := Als (L := adt) (b := ah3) (m := []) ah4 trivial
theorem aoZ : EntOK Tryz.prog ao6 := Afk (F := aak) (fn := Tryz.f29) (m := lp Tryz.f29 [0]) ah4 Tryz.func29 ⟨anG, trivial⟩
def mQ : Shape := ⟨[(0, .dat ak), (1, DI), (2, .dat ac), (3, DI)], []⟩
def mS : Shape := Qr
def qF (tree_height_r : (ah × Int × aa × Int × Unit) -> Option (Int × Unit)) : Ent := ⟨91, mQ, mS, tree_height_r⟩
def xS : Lp := ⟨⟨[(9, .own bc 0), (10, DI), (11, DI)], [.arr 93 bc false]⟩, .ret, Q1, (.exit 0), ⟨[], []⟩⟩
def aaI : Ent := ⟨182, Q7, Qe, ki⟩
def uC : Fx := AFl [] [(0, xS.go qK 0)] 0
theorem ab6 : aC Tryz.prog (uC).Γ := ai trivial
theorem ajv : LA uC Tryz.f182 0 0 := Als (L := xS) (b := iy) (m := []) ab6 trivial
theorem ak3 : AX aaI := Afs (F := uC) (fn := Tryz.f182) (m := lp Tryz.f182 [0]) ab6 Tryz.func182 ⟨ajv, trivial⟩
def abf : Lp := ⟨⟨[(0, .dat (.list af)), (3, DI)], []⟩, .ret, Q1, (.exit 0), ⟨[], []⟩⟩
def aey : Ent := ⟨180, QO, Qe, zR⟩
def xQ : Fx := AFl [] [(0, abf.go yW 0)] 0
theorem afG : aC Tryz.prog (xQ).Γ := ai trivial
theorem ami : LA xQ Tryz.f180 0 0 := Als (L := abf) (b := qq) (m := []) afG trivial
theorem aop : AX aey := Afs (F := xQ) (fn := Tryz.f180) (m := lp Tryz.f180 [0]) afG Tryz.func180 ⟨ami, trivial⟩
def aaH : Ent := ⟨179, Ru, Qe, ve⟩
theorem ak2 : AX aaH := Af0 (l := []) Tryz.func179 trivial
def ade : Ent := ⟨178, ⟨[(0, .dat af), (1, .ptr 0 ac 0 [])], Qt⟩, ⟨[(0, DB)], Qt⟩, ac2⟩
def alB : Fx := AFl [pD, aaH] [] 1
theorem alK : AX ade := Afs (F := alB) (fn := Tryz.f178) (m := []) (ai ⟨sX, ak2, trivial⟩) Tryz.func178 trivial

end D
open Go Go.X Go.Proofs D
namespace D
def fT : Lp := ⟨⟨[(0, .dat (.list af)), (1, .fn 178 [] [(.ptr 0 ac 0 [])]), (7, DI), (8, DI)], Qt⟩, .ret, ⟨[(4, DI)], Qt⟩, (.exit 0), ⟨[], Qt⟩⟩
def gM : Ent := ⟨219, ⟨[(0, .dat (.list af)), (1, .fn 178 [] [(.ptr 0 ac 0 [])])], Qt⟩, ⟨[(0, DI)], Qt⟩, dV⟩
def cY : Fx := AFl [ade] [(0, fT.go dg 1)] 1
theorem hO : aC Tryz.prog (cY).Γ := ai ⟨alK, trivial⟩
theorem og : LA cY Tryz.f219 0 0 := Als (L := fT) (b := bE) (m := []) hO trivial
theorem oM : AX gM := Afs (F := cY) (fn := Tryz.f219) (m := lp Tryz.f219 [0]) hO Tryz.func219 ⟨og, trivial⟩
def gL : Ent := ⟨181, ⟨[(0, .dat (.list af)), (1, .fn 178 [] [(.ptr 0 ac 0 [])])], Qt⟩, ⟨[(0, DB)], Qt⟩, dU⟩
def oE : Fx := AFl [gM] [] 1
theorem oL : AX gL := Afs (F := oE) (fn := Tryz.f181) (m := []) (ai ⟨oM, trivial⟩) Tryz.func181 trivial
def qD : Ent := ⟨321, Qf, QP, aax⟩
theorem ab3 : AX qD := Af0 (l := []) Tryz.func321 trivial
def qz : Ent := ⟨334, Qf, QP, aat⟩
theorem aby : AX qz := Af0 (l := []) Tryz.func334 trivial
def pi : Ent := ⟨345, Qf, QP, yp⟩
theorem zu : AX pi := Af0 (l := []) Tryz.func345 trivial
def pn : Ent := ⟨352, Qf, ⟨Qy, Qb⟩, yt⟩
theorem zx : AX pn := Af0 (l := [eL]) Tryz.func352 ⟨gk, trivial⟩
def nJ : Ent := ⟨362, Qf, ⟨Qy, Qb⟩, wp⟩
theorem yl : AX nJ := Af0 (l := [eL]) Tryz.func362 ⟨gk, trivial⟩
def nO : Ent := ⟨368, Qf, ⟨Qy, Qb⟩, wu⟩
theorem y9 : AX nO := Af0 (l := []) Tryz.func368 trivial
def ai6 : Ent := ⟨187, Qf, QP, qJ⟩
noncomputable def apR : Fx := ail Acx (avw Acx (dm [qD, qz, pi, pn, nJ, nO]) 110 Tryz.f110 (dm [qD, qz, pi, pn, nJ, nO])) (fun k st => .fail) 0
theorem aqz : AX ai6 := Afs (F := apR) (fn := Tryz.f187) (m := []) (acd (by kernel_rfl) (agd (F := (ail Acx (dm [qD, qz, pi, pn, nJ, nO]) (fun _ _ => .fail) 0)) fe (ai ⟨ab3, aby, zu, zx, yl, y9, trivial⟩) bz Tryz.func110 (by kernel_rfl) (by kernel_rfl) (by kernel_rfl)) (ai ⟨ab3, aby, zu, zx, yl, y9, trivial⟩)) Tryz.func187 trivial
def aeu : Ent := ⟨184, QW, Qe, jg⟩
theorem aoc : AX aeu := Af0 (l := [mL, iJ, pD]) Tryz.func184 ⟨rC, kG, sX, trivial⟩
def wg : Ent := ⟨183, ⟨[(0, .dat ac), (1, .ptr 0 ac 0 [])], Qt⟩, ⟨[(0, DB)], Qt⟩, tK⟩
def alC : Fx := AFl [aeu] [] 1
theorem ad9 : AX wg := Afs (F := alC) (fn := Tryz.f183) (m := []) (ai ⟨aoc, trivial⟩) Tryz.func183 trivial
def fX : Lp := ⟨⟨[(0, .dat (.list ac)), (1, .fn 183 [] [(.ptr 0 ac 0 [])]), (7, DI), (8, DI)], Qt⟩, .ret, ⟨[(4, DI)], Qt⟩, (.exit 0), ⟨[], Qt⟩⟩
def gQ : Ent := ⟨116, ⟨[(0, .dat (.list ac)), (1, .fn 183 [] [(.ptr 0 ac 0 [])])], Qt⟩, ⟨[(0, DI)], Qt⟩, dW⟩
def dc : Fx := AFl [wg] [(0, fX.go dh 1)] 1
theorem ik : aC Tryz.prog (dc).Γ := ai ⟨ad9, trivial⟩
theorem ol : LA dc Tryz.f116 0 0 := Als (L := fX) (b := bF) (m := []) ik trivial
theorem oQ : AX gQ := Afs (F := dc) (fn := Tryz.f116) (m := lp Tryz.f116 [0]) ik Tryz.func116 ⟨ol, trivial⟩
def fN : Ent := ⟨71, ⟨[(0, .dat (.list ac)), (1, .fn 183 [] [(.ptr 0 ac 0 [])])], Qt⟩, ⟨[(0, DB)], Qt⟩, bY⟩
def nr : Fx := AFl [gQ] [] 1
theorem n6 : AX fN := Afs (F := nr) (fn := Tryz.f71) (m := []) (ai ⟨oQ, trivial⟩) Tryz.func71 trivial
def fY : Lp := ⟨⟨[(0, .own ac 0), (1, .fn 183 [] [(.ptr 1 ac 0 [])]), (7, DI), (8, DI)], QF⟩, .ret, ⟨[(4, DI)], QF⟩, (.exit 0), ⟨[], QF⟩⟩
def gR : Ent := ⟨116, ⟨[(0, .own ac 0), (1, .fn 183 [] [(.ptr 1 ac 0 [])])], QF⟩, ⟨[(0, DI)], QF⟩, dX⟩
def dd : Fx := AFl [wg] [(0, fY.go dj 2)] 2
theorem il : aC Tryz.prog (dd).Γ := ai ⟨ad9, trivial⟩
theorem om : LA dd Tryz.f116 0 0 := Als (L := fY) (b := bG) (m := []) il trivial
theorem oR : AX gR := Afs (F := dd) (fn := Tryz.f116) (m := lp Tryz.f116 [0]) il Tryz.func116 ⟨om, trivial⟩
def fO : Ent := ⟨71, ⟨[(0, .own ac 0), (1, .fn 183 [] [(.ptr 1 ac 0 [])])], QF⟩, ⟨[(0, DB)], QF⟩, bZ⟩
def nu : Fx := AFl [gR] [] 2
theorem n7 : AX fO := Afs (F := nu) (fn := Tryz.f71) (m := []) (ai ⟨oR, trivial⟩) Tryz.func71 trivial
def adf : Ent := ⟨186, ⟨[(0, .dat aj), (1, .ptr 0 .opq 0 [])], Qi⟩, ⟨[(0, DB)], Qi⟩, xb⟩
def alD : Fx := AFl [agE, abN, ai6, fN, fO] [] 2
theorem alL : AX adf := Afs (F := alD) (fn := Tryz.f186) (m := []) (ai ⟨aoJ, ajq, aqz, n6, n7, trivial⟩) Tryz.func186 trivial
def gW : Lp := ⟨⟨[(0, .dat (.list aj)), (1, .fn 186 [] [(.ptr 0 .opq 0 [])]), (7, DI), (8, DI)], Qi⟩, .ret, ⟨[(4, DI)], Qi⟩, (.exit 0), ⟨[], Qi⟩⟩
def iP : Ent := ⟨115, ⟨[(0, .dat (.list aj)), (1, .fn 186 [] [(.ptr 0 .opq 0 [])])], Qi⟩, ⟨[(0, DI)], Qi⟩, eQ⟩
def dC : Fx := AFl [adf] [(0, gW.go dJ 2)] 2
theorem ja : aC Tryz.prog (dC).Γ := ai ⟨alL, trivial⟩
theorem p8 : LA dC Tryz.f115 0 0 := Als (L := gW) (b := bP) (m := []) ja trivial
theorem qk : AX iP := Afs (F := dC) (fn := Tryz.f115) (m := lp Tryz.f115 [0]) ja Tryz.func115 ⟨p8, trivial⟩
def iM : Ent := ⟨185, ⟨[(0, .dat (.list aj)), (1, .fn 186 [] [(.ptr 0 .opq 0 [])])], Qi⟩, ⟨[(0, DB)], Qi⟩, cH⟩
def pG : Fx := AFl [iP] [] 2
theorem qh : AX iM := Afs (F := pG) (fn := Tryz.f185) (m := []) (ai ⟨qk, trivial⟩) Tryz.func185 trivial
def adn : Lp := ⟨⟨[(2, .ptr 0 aw 0 []), (3, .ptr 1 ac 0 []), (6, DS), (67, .dat (.list .str)), (68, DI), (69, DI)], QZ⟩, .ret, Rs, (.exit 0), ⟨[(2, .ptr 0 aw 0 []), (3, .ptr 1 ac 0 [])], QZ⟩⟩
def ado : Lp := ⟨⟨[(2, .ptr 0 aw 0 []), (3, .ptr 1 ac 0 []), (90, .dat (.list (.int .i64))), (91, DI), (92, DI)], QZ⟩, .ret, Rs, (.exit 2), ⟨[(2, .ptr 0 aw 0 []), (3, .ptr 1 ac 0 [])], QZ⟩⟩
def agG : Ent := ⟨148, Ro, Qe, ix⟩
def uX : Fx := AFl [aaI, aey, gL, iM] [(0, adn.go o7 0), (2, ado.go vd 0)] 0
theorem aaz : aC Tryz.prog (uX).Γ := ai ⟨ak3, aop, oL, qh, trivial⟩
theorem anp : LA uX Tryz.f148 0 0 := Als (L := adn) (b := eP) (m := []) aaz trivial
theorem anq : LA uX Tryz.f148 2 1 := Als (L := ado) (b := m9) (m := []) aaz trivial
theorem aoP : AX agG := Afs (F := uX) (fn := Tryz.f148) (m := lp Tryz.f148 [0, 2]) aaz Tryz.func148 ⟨anp, anq, trivial⟩
def zV : Ent := ⟨189, ⟨[(0, .ptr 0 aG 0 [0]), (1, DI), (2, DI)], [.box 95 aG Qh]⟩, ⟨[], [.box 95 aG Qh]⟩, pX⟩
def ao8 : Fx := AFl [] [] 1
theorem ahm : AX zV := Afs (F := ao8) (fn := Tryz.f189) (m := []) (ai trivial) Tryz.func189 trivial
def uA : Ent := ⟨189, ⟨[(0, .ptr 0 aG 0 [1]), (1, DI), (2, DI)], [.box 95 aG Qh]⟩, ⟨[], [.box 95 aG Qh]⟩, kh⟩
def ake : Fx := AFl [] [] 1
theorem ab5 : AX uA := Afs (F := ake) (fn := Tryz.f189) (m := []) (ai trivial) Tryz.func189 trivial
def cP : Ent := ⟨297, QL, Qr, iw⟩
set_option maxHeartbeats 1000000 in
theorem rn (a : ByteArray) (c : Int) (w : World) : Calls Tryz.prog 297 #[.string a, .int .u8 c] w fun e w' => e = .returned (.int .i64 (Lib.indexByte a.data.toList c.toNat.toUInt8)) /\ w' = w := by
  go_enter Tryz.func297, Tryz.ntmps297
  go_wp2
  rw [run_callFunc_extern Tryz.func301 (by kernel_rfl) (by kernel_rfl) (by kernel_rfl) (e := Extern.BytealgIndexByte.indexByte) (by kernel_rfl), Lib.run_indexByteString]
  simp only [Result.andThen]
  rw [Oper.upon_value]
  go_wp2
  go_ret
  exact ⟨rfl, rfl⟩
end D
