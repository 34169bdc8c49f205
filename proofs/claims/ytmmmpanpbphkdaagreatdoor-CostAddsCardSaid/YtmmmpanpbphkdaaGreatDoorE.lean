/- Entries, by program. -/
import Derived.Test.YtmmmpanpbphkdaaGreatDoorEb
set_option linter.unusedVariables false
set_option maxRecDepth 100000
open Go Go.X Go.Proofs D
namespace D
def ft : Lp := Lp1 ⟨[(10, .ptr 0 bW 0 []), (14, .ptr 1 az 0 []), (22, .ptr 2 aN 0 []), (23, .ptr 3 ak 0 []), (24, DI)], [.box 114 bW (.agg [Qg, DI]), .box 85 az (.agg [(.dat (.list ag)), (.own .str 4), (.own (.int .i64) 5), (.own aQ 6), (.own ah 7)]), .box 149 aN (.dat aN), .box 32 ak (.dat ak), .arr 9 .str true, .arr 3 (.int .i64) true, .arr 95 aQ true, .arr 41 ah true]⟩ 4 ⟨[(10, .ptr 0 bW 0 []), (22, .ptr 1 aN 0 []), (23, .ptr 2 ak 0 [])], [.box 114 bW (.agg [Qg, DI]), .box 149 aN (.dat aN), .box 32 ak (.dat ak)]⟩
def pO : Ent := ⟨50, gY, gZ, rU⟩
def dm (ref12_build_r : (au × (List aa) × ac × (List (List (List UInt8))) × a9 × Unit) -> Option (aH × Unit)) : Fx := AFl [lM, ud, pN, uf, ue, so, (fm ref12_build_r), ug, sU] [(0, fo.go (mB ref12_build_r) 0), (2, fq.go (mC ref12_build_r) 0), (4, ft.go (mD ref12_build_r) 0)] 0
theorem abA (ref12_build_r : (au × (List aa) × ac × (List (List (List UInt8))) × a9 × Unit) -> Option (aH × Unit)) (s : fo.S.ty.den) : @Eq (Option (fo.S.ty.den ⊕ fo.Out)) (fo.body (dm ref12_build_r) (oD (aG Tryz.f50) 0) 0 s).val (ik ref12_build_r s) := by kernel_rfl
theorem abB (ref12_build_r : (au × (List aa) × ac × (List (List (List UInt8))) × a9 × Unit) -> Option (aH × Unit)) (s : fq.S.ty.den) : @Eq (Option (fq.S.ty.den ⊕ fq.Out)) (fq.body (dm ref12_build_r) (oD (aG Tryz.f50) 1) 2 s).val (fS ref12_build_r s) := by kernel_rfl
theorem abC (ref12_build_r : (au × (List aa) × ac × (List (List (List UInt8))) × a9 × Unit) -> Option (aH × Unit)) (s : ft.S.ty.den) : @Eq (Option (ft.S.ty.den ⊕ ft.Out)) (ft.body (dm ref12_build_r) (oD (aG Tryz.f50) 2) 4 s).val (il ref12_build_r s) := by kernel_rfl
theorem af8 (ref12_build_r : (au × (List aa) × ac × (List (List (List UInt8))) × a9 × Unit) -> Option (aH × Unit)) (s : gY.ty.den) : @Eq (Option gZ.ty.den) (aeB (dm ref12_build_r) Tryz.f50 gY gZ s).val (dQ ref12_build_r s) := by kernel_rfl
theorem m9 (ref12_build_r : (au × (List aa) × ac × (List (List (List UInt8))) × a9 × Unit) -> Option (aH × Unit)) (ref12_build_r_ok : EntOK Tryz.prog (fm ref12_build_r)) : aC Tryz.prog (dm ref12_build_r).Γ := al ⟨qX, ab1, x8, ab8, ab7, zJ, (ref12_build_r_ok.x (by kernel_rfl)), ab9, ac7, trivial⟩
theorem adI (ref12_build_r : (au × (List aa) × ac × (List (List (List UInt8))) × a9 × Unit) -> Option (aH × Unit)) (ref12_build_r_ok : EntOK Tryz.prog (fm ref12_build_r)) : jY Tryz.prog (dm ref12_build_r) Tryz.f50.ntmps 0 (oD (aG Tryz.f50) 0) :=
  tw lC (m9 ref12_build_r ref12_build_r_ok) ee (L := fo) (f := mB ref12_build_r) (b := ik ref12_build_r) (m := []) (fun _ => rfl) (by kernel_rfl) (by kernel_rfl) trivial (by kernel_rfl) (bM _ (by kernel_rfl)) (abA ref12_build_r)
theorem adJ (ref12_build_r : (au × (List aa) × ac × (List (List (List UInt8))) × a9 × Unit) -> Option (aH × Unit)) (ref12_build_r_ok : EntOK Tryz.prog (fm ref12_build_r)) : jY Tryz.prog (dm ref12_build_r) Tryz.f50.ntmps 2 (oD (aG Tryz.f50) 1) :=
  tw lC (m9 ref12_build_r ref12_build_r_ok) ee (L := fq) (f := mC ref12_build_r) (b := fS ref12_build_r) (m := []) (fun _ => rfl) (by kernel_rfl) (by kernel_rfl) trivial (by kernel_rfl) (bM _ (by kernel_rfl)) (abB ref12_build_r)
theorem adK (ref12_build_r : (au × (List aa) × ac × (List (List (List UInt8))) × a9 × Unit) -> Option (aH × Unit)) (ref12_build_r_ok : EntOK Tryz.prog (fm ref12_build_r)) : jY Tryz.prog (dm ref12_build_r) Tryz.f50.ntmps 4 (oD (aG Tryz.f50) 2) :=
  tw lC (m9 ref12_build_r ref12_build_r_ok) ee (L := ft) (f := mD ref12_build_r) (b := il ref12_build_r) (m := []) (fun _ => rfl) (by kernel_rfl) (by kernel_rfl) trivial (by kernel_rfl) (bM _ (by kernel_rfl)) (abC ref12_build_r)
theorem yH (ref12_build_r : (au × (List aa) × ac × (List (List (List UInt8))) × a9 × Unit) -> Option (aH × Unit)) (ref12_build_r_ok : EntOK Tryz.prog (fm ref12_build_r)) : EntOK Tryz.prog ⟨50, gY, gZ, dQ ref12_build_r⟩ :=
  tu (F := (dm ref12_build_r)) lC (m9 ref12_build_r ref12_build_r_ok) ee (fn := Tryz.f50) (m := lp Tryz.f50 [0, 2, 4]) Tryz.func50 (by kernel_rfl) (by kernel_rfl) (by kernel_rfl) ⟨adI ref12_build_r ref12_build_r_ok, adJ ref12_build_r ref12_build_r_ok, adK ref12_build_r ref12_build_r_ok, trivial⟩ (bM _ (by kernel_rfl)) (by kernel_rfl) (af8 ref12_build_r)
theorem oW : ∀ n, EntOK Tryz.prog ⟨50, gY, gZ, fE n⟩
  | 0 => aiP
  | n + 1 => yH _ (oW n)
theorem af9 : EntOK Tryz.prog pO := oW abc
theorem afA : AX pO := (af9).x (by kernel_rfl)
def yV : Ent := ⟨13, ⟨[(0, .dat cD)], []⟩, QX, vc⟩
theorem agN : AX yV := Af0 (l := [yQ, pO]) Tryz.func13 ⟨agA, afA, trivial⟩
def sR : Ent := ⟨326, ⟨[(0, DI), (1, DI), (2, DI)], []⟩, Qd, uE⟩
theorem yp : AX sR := Af0 (l := []) Tryz.func326 trivial
def jH : Ent := ⟨322, Qf, Qd, sG⟩
theorem tI : AX jH := Af0 (l := [sR]) Tryz.func322 ⟨yp, trivial⟩
def kD : Ent := ⟨320, Qf, Qf, uG⟩
theorem vJ : AX kD := Af0 (l := []) Tryz.func320 trivial
def jD : Ent := ⟨335, Qf, Qd, sC⟩
theorem tE : AX jD := Af0 (l := [sR]) Tryz.func335 ⟨yp, trivial⟩
def kC : Ent := ⟨333, Qf, Qf, uD⟩
theorem vI : AX kC := Af0 (l := []) Tryz.func333 trivial
def wk : Ent := ⟨349, Qw, Qd, xb⟩
theorem acX : AX wk := Af0 (l := [ko]) Tryz.func349 ⟨nK, trivial⟩
def jc : Ent := ⟨346, Qf, Qd, qw⟩
theorem rK : AX jc := Af0 (l := [wk]) Tryz.func346 ⟨acX, trivial⟩
def jE : Ent := ⟨344, Qf, Qf, sD⟩
theorem tF : AX jE := Af0 (l := []) Tryz.func344 trivial
def ub : Ent := ⟨357, Qm, Qd, tC⟩
theorem abo : AX ub := Af0 (l := [jk, sR]) Tryz.func357 ⟨om, yp, trivial⟩
def je : Ent := ⟨353, Qf, Qd, qy⟩
theorem rM : AX je := Af0 (l := [ub]) Tryz.func353 ⟨abo, trivial⟩
def jF : Ent := ⟨351, Qf, Qf, sE⟩
theorem tG : AX jF := Af0 (l := []) Tryz.func351 trivial
def iz : Ent := ⟨363, Qf, Qd, oE⟩
theorem qt : AX iz := Af0 (l := [ub]) Tryz.func363 ⟨abo, trivial⟩
def iZ : Ent := ⟨361, Qf, Qf, qs⟩
theorem rH : AX iZ := Af0 (l := []) Tryz.func361 trivial
def i8 : Ent := ⟨369, Qf, Qd, oI⟩
theorem qE : AX i8 := Af0 (l := [sR, wk]) Tryz.func369 ⟨yp, acX, trivial⟩
def jg : Ent := ⟨367, Qf, Qf, qD⟩
theorem rO : AX jg := Af0 (l := []) Tryz.func367 trivial
def aaA : Ent := ⟨58, Qf, Qd, jL⟩
noncomputable def ahy : Fx := ac0 Acx (aoA Acx (dp [jH, kD, jD, kC, jc, jE, je, jF, iz, iZ, i8, jg]) 110 Tryz.f110 (dp [jH, kD, jD, kC, jc, jE, je, jF, iz, iZ, i8, jg])) (fun k st => .fail) 0
theorem ahX : AX aaA := Afs (F := ahy) (fn := Tryz.f58) (m := []) (aaa (by kernel_rfl) (acw (F := (ac0 Acx (dp [jH, kD, jD, kC, jc, jE, je, jF, iz, iZ, i8, jg]) (fun _ _ => .fail) 0)) lC (al ⟨tI, vJ, tE, vI, rK, tF, rM, tG, qt, rH, qE, rO, trivial⟩) ee Tryz.func110 (by kernel_rfl) (by kernel_rfl) (by kernel_rfl)) (al ⟨tI, vJ, tE, vI, rK, tF, rM, tG, qt, rH, qE, rO, trivial⟩)) Tryz.func58 trivial
def bB : Ent := ⟨171, Q0, Qe, bA⟩
def lB : Fx := ac0 Acx (dp []) (fun _ _ => .fail) 0
theorem lG : EntOK Tryz.prog bB :=
  agY (F := lB) lC (al trivial) ee (fn := Tryz.f171) Tryz.func171 (by kernel_rfl) (by kernel_rfl) (by kernel_rfl) (by kernel_rfl) (by kernel_rfl) (fun s => (decide ((List.length ([] : List aa) + List.length s.1) * 40 <= ai))) (fun s => (s.1, ())) (fun s => ([], ())) (fun s => List.length s.1) (fun s => rfl) (fun s => by kernel_rfl) (fun s => by kernel_rfl) (fun s h => congrArg (fun l => (l, ())) (List.eq_nil_of_length_eq_zero h).symm)
theorem dj : AX bB := lG.x (by kernel_rfl)
def cT : Ent := ⟨327, ⟨[(0, .own ag 0), (1, DI), (2, .own ag 1)], [.arr 58 ag false, .arr 58 ag false]⟩, ⟨[(0, .own ag 2)], [.gone, .arr 58 ag false, .arr 58 ag false]⟩, cj⟩
def fK : Fx := ac0 Acx (amu 328 (ovG ag) (dp [])) (fun _ _ => .fail) 2
theorem kY : aC Tryz.prog fK.Γ := aek (aoJ lC (T := 64) (T2 := 4) (t := ag) (by kernel_rfl) (by kernel_rfl) (by kernel_rfl) Tryz.func328 (by kernel_rfl) (by kernel_rfl) (by kernel_rfl) (by kernel_rfl)) (al trivial)
theorem kZ : EntOK Tryz.prog cT :=
  akm (F := fK) (e := 58) (t := ag) (bytes := 40) lC kY ee (by kernel_rfl) (by kernel_rfl) (fn := Tryz.f327) Tryz.func327 (by kernel_rfl) (by kernel_rfl) (by kernel_rfl) (by kernel_rfl) (by kernel_rfl) rfl (fun i xs ys => by kernel_rfl) (fun i xs z ys => by kernel_rfl)
theorem lc : AX cT := kZ.x (by kernel_rfl)
def aaJ : Ent := ⟨325, ⟨[(0, .dat (.list ag)), (1, .dat ag)], []⟩, Qe, y7⟩
theorem aix : AX aaJ := Af0 (l := [lO, bB, cT]) Tryz.func325 ⟨rh, dj, lc, trivial⟩
def jG : Ent := ⟨319, Qt, Qe, sF⟩
theorem tH : AX jG := Af0 (l := [aaJ]) Tryz.func319 ⟨aix, trivial⟩
def oz : Ent := ⟨340, QD, QS, mM⟩
theorem vY : AX oz := Af0 (l := [ko, lO]) Tryz.func340 ⟨nK, rh, trivial⟩
def gk : Ent := ⟨342, ⟨[(0, .nils 58 ag), (1, DI)], []⟩, Qe, cJ⟩
theorem mI : AX gk := Af0 (l := []) Tryz.func342 trivial
def eR : Lp := Lp1 ⟨[(0, .dat (.list (.list ag))), (3, DI), (9, .dat (.list (.list ag))), (10, DI), (11, DI)], []⟩ 0 ⟨[(0, .dat (.list (.list ag))), (3, DI)], []⟩
def eS : Lp := Lp1 ⟨[(6, .own ag 0), (25, .dat (.list (.list ag))), (26, DI), (27, DI)], QC⟩ 2 ⟨[(6, .own ag 0)], QC⟩
def fJ : Ent := ⟨341, ⟨[(0, .dat (.list (.list ag)))], []⟩, Qe, ci⟩
def bS : Fx := AFl [gk] [(0, eR.go cX 0), (2, eS.go cY 0)] 0
theorem cW : aC Tryz.prog (bS).Γ := al ⟨mI, trivial⟩
theorem kx : LA bS Tryz.f341 0 0 := Als (L := eR) (b := aI) (m := []) cW trivial
theorem ky : LA bS Tryz.f341 2 1 := Als (L := eS) (b := aJ) (m := []) cW trivial
theorem kW : AX fJ := Afs (F := bS) (fn := Tryz.f341) (m := lp Tryz.f341 [0, 2]) cW Tryz.func341 ⟨kx, ky, trivial⟩
def kq : Ent := ⟨339, QD, Qe, j9⟩
theorem nL : AX kq := Af0 (l := [oz, fJ]) Tryz.func339 ⟨vY, kW, trivial⟩

end D
open Go Go.X Go.Proofs D
namespace D
def aaI : Ent := ⟨338, QR, Qe, acJ⟩
theorem aiw : AX aaI := Af0 (l := [rp, kq]) Tryz.func338 ⟨xI, nL, trivial⟩
def jC : Ent := ⟨332, Qt, Qe, sB⟩
theorem tD : AX jC := Af0 (l := [aaI]) Tryz.func332 ⟨aiw, trivial⟩
def jb : Ent := ⟨343, Qt, Qe, qv⟩
theorem rJ : AX jb := Af0 (l := [kq]) Tryz.func343 ⟨nL, trivial⟩
def wz : Ent := ⟨360, QD, ⟨[(0, .clip ag)], []⟩, sd⟩
theorem afR : AX wz := Af0 (l := [oz]) Tryz.func360 ⟨vY, trivial⟩
def w9 : Lp := Lp1 ⟨[(1, DS), (2, DS), (7, .own ag 0), (15, DI), (16, DI)], QC⟩ 0 ⟨[(7, .own ag 0)], QC⟩
def aaB : Ent := ⟨358, ⟨[(0, .dat (.list ag)), (1, DS), (2, DS)], []⟩, Qe, yq⟩
def uj : Fx := AFl [gV, sq, bB, wz] [(0, w9.go uF 0)] 0
theorem abp : aC Tryz.prog (uj).Γ := al ⟨j7, zM, dj, afR, trivial⟩
theorem agy : LA uj Tryz.f358 0 0 := Als (L := w9) (b := jM) (m := []) abp trivial
theorem ahY : AX aaB := Afs (F := uj) (fn := Tryz.f358) (m := lp Tryz.f358 [0]) abp Tryz.func358 ⟨agy, trivial⟩
def tn : Lp := Lp1 ⟨[(0, .dat (.list ag)), (1, .dat (.list ag)), (5, .own ag 0)], QC⟩ 0 ⟨[(0, .dat (.list ag)), (1, .dat (.list ag)), (5, .own ag 0)], QC⟩
def w5 : Ent := ⟨39, Q5, Qe, se⟩
def qa : Fx := AFl [] [(0, tn.go rg 0)] 0
theorem xV : aC Tryz.prog (qa).Γ := al trivial
theorem adO : LA qa Tryz.f39 0 0 := Als (L := tn) (b := ir) (m := []) xV trivial
theorem afS : AX w5 := Afs (F := qa) (fn := Tryz.f39) (m := lp Tryz.f39 [0]) xV Tryz.func39 ⟨adO, trivial⟩
def fG : Ent := ⟨356, Qt, Qe, iK⟩
theorem kP : AX fG := Af0 (l := [gV, kq, aaB, w5]) Tryz.func356 ⟨j7, nL, ahY, afS, trivial⟩
def jd : Ent := ⟨350, Qt, Qe, mb⟩
theorem rL : AX jd := Af0 (l := [gV, kq, fG]) Tryz.func350 ⟨j7, nL, kP, trivial⟩
def nP : Lp := Lp1 ⟨[(2, .ptr 0 ah 0 []), (5, .own ag 1), (10, DI), (11, DI)], [.box 215 ah (.dat ah), .arr 58 ag false]⟩ 0 ⟨[(5, .own ag 0)], QC⟩
def i7 : Ent := ⟨366, Qt, Qe, oH⟩
def kN : Fx := AFl [rn, bB] [(0, nP.go kQ 0)] 0
theorem qB : aC Tryz.prog (kN).Γ := al ⟨xH, dj, trivial⟩
theorem yG : LA kN Tryz.f366 0 0 := Als (L := nP) (b := fR) (m := []) qB trivial
theorem qC : AX i7 := Afs (F := kN) (fn := Tryz.f366) (m := lp Tryz.f366 [0]) qB Tryz.func366 ⟨yG, trivial⟩
def aa9 : Ent := ⟨61, ⟨[(0, .dat (.list ag)), (1, .dat ah)], []⟩, Q0, lw⟩
noncomputable def ahx : Fx := ac0 Acx (aoA Acx (dp [jG, jC, jb, fG, jd, i7]) 110 Tryz.f110 (dp [jG, jC, jb, fG, jd, i7])) (fun k st => .fail) 0
theorem ahW : AX aa9 := Afs (F := ahx) (fn := Tryz.f61) (m := []) (aaa (by kernel_rfl) (acw (F := (ac0 Acx (dp [jG, jC, jb, fG, jd, i7]) (fun _ _ => .fail) 0)) lC (al ⟨tH, tD, rJ, kP, rL, qC, trivial⟩) ee Tryz.func110 (by kernel_rfl) (by kernel_rfl) (by kernel_rfl)) (al ⟨tH, tD, rJ, kP, rL, qC, trivial⟩)) Tryz.func61 trivial
def wA : Lp := Lp1 ⟨[(4, .ptr 0 ak 0 []), (6, .ptr 1 ak 0 []), (7, .own (.int .i64) 2)], [.box 32 ak Qg, .box 32 ak (.agg [(.own aB 3)]), .arr 3 (.int .i64) false, .arr 87 aB false]⟩ 0 ⟨[(4, .ptr 0 ak 0 []), (6, .ptr 1 ak 0 [])], Qp⟩
def aaC : Ent := ⟨64, Qu, Qu, pC⟩
def uk : Fx := AFl [oZ, sg] [(0, wA.go uJ 0)] 0
theorem abt : aC Tryz.prog (uk).Γ := al ⟨uL, zr, trivial⟩
theorem ag6 : LA uk Tryz.f64 0 0 := Als (L := wA) (b := jO) (m := []) abt trivial
theorem aig : AX aaC := Afs (F := uk) (fn := Tryz.f64) (m := lp Tryz.f64 [0]) abt Tryz.func64 ⟨ag6, trivial⟩
def gT : Ent := ⟨62, Q2, ⟨[(0, .clip ah)], []⟩, dc⟩
theorem nr : AX gT := Af0 (l := []) Tryz.func62 trivial
def w6 : Ent := ⟨15, ⟨[(0, .dat aD), (1, .dat ah)], []⟩, ⟨[(0, .dat aD), (1, DI)], []⟩, rj⟩
def ai7 : Fx := AF0 [lh, lP, wl, aaA, aa9, aaC, gT]
theorem ajF : EntOK Tryz.prog w6 := Afk (F := ai7) (fn := Tryz.f15) (m := []) (al ⟨rP, vo, adc, ahX, ahW, aig, nr, trivial⟩) Tryz.func15 trivial
theorem ajG : AX w6 := ajF.x (by kernel_rfl)
def tp : Lp := Lp1 ⟨[(1, .ptr 0 aD 0 []), (3, .ptr 1 az 0 []), (5, DI)], [.box 36 aD (.dat aD), .box 85 az (.dat az)]⟩ 0 ⟨[(5, DI)], []⟩
def pS : Ent := ⟨17, QX, Qv, sf⟩
def qb : Fx := AFl [lh, lP] [(0, tp.go rk 0)] 0
theorem yc : aC Tryz.prog (qb).Γ := al ⟨rP, vo, trivial⟩
theorem adP : LA qb Tryz.f17 0 0 := Als (L := tp) (b := jB) (m := []) yc trivial
theorem afW : EntOK Tryz.prog pS := Afk (F := qb) (fn := Tryz.f17) (m := lp Tryz.f17 [0]) yc Tryz.func17 ⟨adP, trivial⟩
theorem afX : AX pS := afW.x (by kernel_rfl)
def tj : Lp := ⟨⟨[(0, .dat (.list af)), (1, .dat (.list af)), (5, DI), (6, DI)], []⟩, .ret, QE, (.exit 2), QY⟩
def th : Lp := ⟨QY, .ret, QE, (.exit 0), ⟨[], []⟩⟩
def wt : Ent := ⟨78, ⟨[(0, .dat (.list af)), (1, .dat (.list af))], []⟩, Qd, rS⟩
def lQ : Fx := AFl [lL, sk] [(2, tj.go qW 0), (0, th.go qV 0)] 0
theorem qU : aC Tryz.prog (lQ).Γ := al ⟨qO, zC, trivial⟩
theorem vU : LA lQ Tryz.f78 2 1 := Als (L := tj) (b := ii) (m := []) qU trivial
theorem adF : LA lQ Tryz.f78 0 0 := Als (L := th) (b := ig) (m := [(2, oD (aG Tryz.f78) 1)]) qU ⟨vU, trivial⟩
theorem af0 : AX wt := Afs (F := lQ) (fn := Tryz.f78) (m := lp Tryz.f78 [0, 2]) qU Tryz.func78 ⟨adF, vU, trivial⟩
def qd : Lp := Lp1 ⟨[(2, .ptr 0 aD 0 []), (3, .ptr 1 ah 0 []), (5, .own (.int .i64) 2), (6, .own af 3), (7, DI), (8, .ptr 4 az 0 []), (10, .own af 5), (11, DI)], [.box 36 aD (.dat aD), .box 41 ah (.dat ah), .arr 3 (.int .i64) false, .arr 39 af false, .box 85 az (.dat az), .arr 39 af true]⟩ 2 Qy
def qc : Lp := Lp1 Qy 0 ⟨[(7, DI)], []⟩
def sQ : Ent := ⟨18, ⟨[(0, .dat aD), (1, .dat ah)], []⟩, Qv, nG⟩
def jI : Fx := AFl [lM, ug, ov, wt] [(2, qd.go nc 0), (0, qc.go mZ 0)] 0
theorem mY : aC Tryz.prog (jI).Γ := al ⟨qX, ab9, vW, af0, trivial⟩
theorem rE : LA jI Tryz.f18 2 1 := Als (L := qd) (b := hS) (m := []) mY trivial
theorem abj : LA jI Tryz.f18 0 0 := Als (L := qc) (b := bO) (m := [(2, oD (aG Tryz.f18) 1)]) mY ⟨rE, trivial⟩
theorem acy : AX sQ := Afs (F := jI) (fn := Tryz.f18) (m := lp Tryz.f18 [0, 2]) mY Tryz.func18 ⟨abj, rE, trivial⟩
def wB : Lp := Lp1 ⟨[(3, DI), (7, .dat (.list aB)), (8, DI), (9, DI)], []⟩ 0 ⟨[(3, DI)], []⟩
def aaD : Ent := ⟨19, ⟨[(0, .dat ak)], []⟩, Qv, yu⟩
def ul : Fx := AFl [] [(0, wB.go uK 0)] 0
theorem abu : aC Tryz.prog (ul).Γ := al trivial
theorem ag7 : LA ul Tryz.f19 0 0 := Als (L := wB) (b := md) (m := []) abu trivial
theorem aih : AX aaD := Afs (F := ul) (fn := Tryz.f19) (m := lp Tryz.f19 [0]) abu Tryz.func19 ⟨ag7, trivial⟩
def lK : Ent := ⟨3, ⟨[(0, .dat cD), (1, .dat Qa)], []⟩, Qd, fP⟩
def aaK : Fx := AF0 [pJ, kB, ot, fe, yV, w6, pS, sQ, aaD]
theorem abi : EntOK Tryz.prog lK := Afk (F := aaK) (fn := Tryz.f3) (m := []) (al ⟨ae0, vE, ad4, zF, agN, ajG, afX, acy, aih, trivial⟩) Tryz.func3 trivial
end D
open Go Go.X Go.Proofs D
namespace D
end D
open Go Go.X Go.Proofs D
namespace D
end D
open Go Go.X Go.Proofs D
namespace D
end D
open Go Go.X Go.Proofs D
namespace D
end D
open Go Go.X Go.Proofs D
namespace D
end D
open Go Go.X Go.Proofs D
namespace D
end D
