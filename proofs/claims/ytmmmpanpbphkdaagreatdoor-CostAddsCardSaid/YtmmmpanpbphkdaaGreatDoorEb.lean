/- Entries, by program. -/
import Derived.Test.YtmmmpanpbphkdaaGreatDoorEa
set_option linter.unusedVariables false
set_option maxRecDepth 100000
open Go Go.X Go.Proofs D
namespace D
theorem aaX (cost_WeightC1_r : (Int × ac × (List ae) × am × Int × Unit) -> Option (Int × am × Int × Unit)) (cost_WeightC1_r_ok : EntOK Tryz.prog (iy cost_WeightC1_r)) : jY Tryz.prog (gW cost_WeightC1_r) Tryz.f65.ntmps 0 (oD (aG Tryz.f65) 0) :=
  tw lC (tt cost_WeightC1_r cost_WeightC1_r_ok) ee (L := dM) (f := fB cost_WeightC1_r) (b := fA cost_WeightC1_r) (m := []) (fun _ => rfl) (by kernel_rfl) (by kernel_rfl) trivial (by kernel_rfl) (bM _ (by kernel_rfl)) (yE cost_WeightC1_r)
theorem wc (cost_WeightC1_r : (Int × ac × (List ae) × am × Int × Unit) -> Option (Int × am × Int × Unit)) (cost_WeightC1_r_ok : EntOK Tryz.prog (iy cost_WeightC1_r)) : EntOK Tryz.prog ⟨65, fu, fv, bI cost_WeightC1_r⟩ :=
  tu (F := (gW cost_WeightC1_r)) lC (tt cost_WeightC1_r cost_WeightC1_r_ok) ee (fn := Tryz.f65) (m := lp Tryz.f65 [0]) Tryz.func65 (by kernel_rfl) (by kernel_rfl) (by kernel_rfl) ⟨aaX cost_WeightC1_r cost_WeightC1_r_ok, trivial⟩ (bM _ (by kernel_rfl)) (by kernel_rfl) (acm cost_WeightC1_r)
theorem mT : ∀ n, EntOK Tryz.prog ⟨65, fu, fv, aV n⟩
  | 0 => aiP
  | n + 1 => wc _ (mT n)
theorem acn : EntOK Tryz.prog mU := mT abc
theorem aco : AX mU := (acn).x (by kernel_rfl)
def lS : Shape := QX
def lT : Shape := QS
def pJ : Ent := ⟨16, lS, lT, eh⟩
def aei : Fx := AF0 [mU]
theorem wQ : EntOK Tryz.prog pJ := Afk (F := aei) (fn := Tryz.f16) (m := []) (al ⟨aco, trivial⟩) Tryz.func16 trivial
theorem ae0 : AX pJ := wQ.x (by kernel_rfl)
def lP : Ent := ⟨60, ⟨[(0, .dat az)], []⟩, Qd, tZ⟩
theorem vo : AX lP := Af0 (l := []) Tryz.func60 trivial
def de : Ent := ⟨231, Qm, Qv, dN⟩
set_option maxHeartbeats 1000000 in
theorem ke (a b : ByteArray) (w : World) : Calls Tryz.prog 231 #[.string a, .string b] w fun e w' => e = .returned (.int .i64 (Lib.compareBytes a.data.toList b.data.toList)) /\ w' = w := by
  go_enter Tryz.func231, Tryz.ntmps231
  go_wp2
  rw [run_callFunc_extern Tryz.func250 (by kernel_rfl) (by kernel_rfl) (by kernel_rfl) (e := Extern.BytealgCompare.compare) (by kernel_rfl), Lib.run_compareString]
  simp only [Result.andThen]
  rw [Oper.upon_value]
  go_wp2
  go_ret
  exact ⟨rfl, rfl⟩
theorem lD : EntOK Tryz.prog de := ao6 (g := fun a b => Lib.compareBytes a b) Tryz.func231 (by kernel_rfl) ke
theorem lE : AX de := lD.x (by kernel_rfl)
def pP : Ent := ⟨208, Qm, Qv, oO⟩
theorem aa4 : AX pP := Af0 (l := [de]) Tryz.func208 ⟨lE, trivial⟩
def sV : Ent := ⟨207, ⟨[(0, .dat ag), (1, DS)], []⟩, Qv, kA⟩
theorem acK : AX sV := Af0 (l := [pP]) Tryz.func207 ⟨aa4, trivial⟩
def bY : Lp := Lp1 ⟨[(0, .dat (.list ag)), (1, DS), (2, .fn 207 [] []), (8, DI), (9, DI), (10, DI)], []⟩ 0 ⟨[(0, .dat (.list ag)), (1, DS), (2, .fn 207 [] []), (8, DI), (9, DI)], []⟩
def cf : Ent := ⟨206, ⟨[(0, .dat (.list ag)), (1, DS), (2, .fn 207 [] [])], []⟩, ⟨[(0, DI), (1, DB)], []⟩, bd⟩
def bx : Fx := AFl [sV] [(0, bY.go b9 0)] 0
theorem cg : aC Tryz.prog (bx).Γ := al ⟨acK, trivial⟩
theorem fb : LA bx Tryz.f206 0 0 := Als (L := bY) (b := aY) (m := []) cg trivial
theorem fF : AX cf := Afs (F := bx) (fn := Tryz.f206) (m := lp Tryz.f206 [0]) cg Tryz.func206 ⟨fb, trivial⟩
def lO : Ent := ⟨164, QR, ⟨[(0, DI), (1, DB)], []⟩, jA⟩
theorem rh : AX lO := Af0 (l := [cf]) Tryz.func164 ⟨fF, trivial⟩
def su : Ent := ⟨127, QR, ⟨[(0, .dat ag), (1, DB)], []⟩, afQ⟩
theorem agS : AX su := Af0 (l := [lO]) Tryz.func127 ⟨rh, trivial⟩
def fI : Ent := ⟨165, Q2, ⟨[(0, .fn 209 [] [(.ptr 0 (.list ah) 0 [])])], [.box 83 (.list ah) (.dat (.list ah))]⟩, gN⟩
theorem kV : AX fI := Af0 (l := []) Tryz.func165 trivial
def rn : Ent := ⟨174, ⟨[(0, .dat af), (1, DS)], []⟩, Qd, tW⟩
theorem xH : AX rn := Af0 (l := []) Tryz.func174 trivial
def pR : Ent := ⟨375, ⟨[(0, .ptr 0 aw 0 []), (1, DI)], [.box 190 aw Qb]⟩, ⟨[], [.box 190 aw Qb]⟩, xX⟩
def aej : Fx := AFl [] [] 1
theorem xY : AX pR := Afs (F := aej) (fn := Tryz.f375) (m := []) (al trivial) Tryz.func375 trivial
def ta : Ent := ⟨380, Qn, QA, zW⟩
def abY : Fx := AFl [rn, pR] [] 1
theorem acR : AX ta := Afs (F := abY) (fn := Tryz.f380) (m := []) (al ⟨xH, xY, trivial⟩) Tryz.func380 trivial
def dg : Ent := ⟨270, Qm, Qd, aX⟩
theorem ga : AX dg := Af0 (l := []) Tryz.func270 trivial
def fW : Ent := ⟨253, Qm, ⟨[(0, DS), (1, DB)], []⟩, dO⟩
theorem lF : AX fW := Af0 (l := [dg]) Tryz.func253 ⟨ga, trivial⟩
def nN : Ent := ⟨240, Qm, ⟨[(0, DS), (1, DB)], []⟩, ji⟩
theorem xO : AX nN := Af0 (l := [fW]) Tryz.func240 ⟨lF, trivial⟩

end D
open Go Go.X Go.Proofs D
namespace D
def sq : Ent := ⟨239, ⟨[(0, DS), (1, DS), (2, DS)], []⟩, ⟨[(0, DS), (1, DB)], []⟩, rc⟩
theorem zM : AX sq := Af0 (l := [nN]) Tryz.func239 ⟨xO, trivial⟩
def sv : Ent := ⟨379, Qn, QA, aa7⟩
def agk : Fx := AFl [sq] [] 1
theorem zQ : AX sv := Afs (F := agk) (fn := Tryz.f379) (m := []) (al ⟨zM, trivial⟩) Tryz.func379 trivial
def jk : Ent := ⟨359, Qm, Qd, gF⟩
theorem om : AX jk := Af0 (l := [dg]) Tryz.func359 ⟨ga, trivial⟩
def sZ : Ent := ⟨378, Qn, QA, zV⟩
def abX : Fx := AFl [sv, jk] [] 1
theorem acQ : AX sZ := Afs (F := abX) (fn := Tryz.f378) (m := []) (al ⟨zQ, om, trivial⟩) Tryz.func378 trivial
def sY : Ent := ⟨377, Qn, QA, zU⟩
def abW : Fx := AFl [rn] [] 1
theorem acP : AX sY := Afs (F := abW) (fn := Tryz.f377) (m := []) (al ⟨xH, trivial⟩) Tryz.func377 trivial
def sX : Ent := ⟨376, Qn, QA, zS⟩
def abV : Fx := AFl [] [] 1
theorem acO : AX sX := Afs (F := abV) (fn := Tryz.f376) (m := []) (al trivial) Tryz.func376 trivial
def sW : Ent := ⟨374, Qn, QA, zR⟩
def abU : Fx := AFl [pR] [] 1
theorem acN : AX sW := Afs (F := abU) (fn := Tryz.f374) (m := []) (al ⟨xY, trivial⟩) Tryz.func374 trivial
def jZ : Shape := ⟨[(0, .yld 1012800 0), (1, DI), (2, .dat ah)], QO⟩
def kc : Shape := ⟨[(0, DB)], QO⟩
def oR : Ent := ⟨1012800, jZ, kc, n7⟩
def oS : Fx := AFl [ta, sv, sZ, sY, sX, sW] [] 3
theorem yJ (s : jZ.ty.den) : @Eq (Option kc.ty.den) (aiR oS evC 1012800 (ak9 Tryz.f128 0) jZ kc s).val (n7 s) := by kernel_rfl
theorem yK : AX oR :=
  akD (F := oS) (c := ak9 Tryz.f128 0) lC (al ⟨acR, zQ, acQ, acP, acO, acN, trivial⟩) ee (by kernel_rfl) (by kernel_rfl) (by kernel_rfl) (m := []) (by kernel_rfl) trivial (by kernel_rfl) yJ
def dS : Lp := ⟨⟨[(0, .yld 1012800 0), (1, .ptr 1 (.list ah) 0 []), (3, DI)], Qh⟩, .ret, ⟨[], Qh⟩, (.exit 0), ⟨[], Qh⟩⟩
def eu : Ent := ⟨209, ⟨[(0, .yld 1012800 0), (1, .ptr 1 (.list ah) 0 [])], Qh⟩, ⟨[], Qh⟩, fU⟩
def cr : Fx := AFl [oR] [(0, dS.go eG 4)] 4
theorem eE : aC Tryz.prog (cr).Γ := al ⟨yK, trivial⟩
theorem j4 : LA cr Tryz.f209 0 0 := Als (L := dS) (b := eD) (m := []) eE trivial
theorem jQ : AX eu := Afs (F := cr) (fn := Tryz.f209) (m := lp Tryz.f209 [0]) eE Tryz.func209 ⟨j4, trivial⟩
def un : Shape := ⟨[(0, DS), (1, .dat (.list ah))], []⟩
def uo : Shape := ⟨[(0, .dat aw)], []⟩
def pc : Ent := ⟨128, un, uo, acM⟩
def aaL : Fx := { cx := Acx, Γ := dp [fI, eu], Λ := fun k st => .fail, keep := fun _ => none, m := 0, rfs := fun k => bif Nat.beq k 3 then some 1012800 else none, its := [209] }
theorem aiz (s : un.ty.den) : @Eq (Option uo.ty.den) (aeB aaL Tryz.f128 un uo s).val (acM s) := by kernel_rfl
theorem ai0 : EntOK Tryz.prog pc :=
  tu (F := aaL) lC (al ⟨kV, jQ, trivial⟩) ee (fn := Tryz.f128) (m := []) Tryz.func128 (by kernel_rfl) (by kernel_rfl) (by kernel_rfl) trivial (aoh (m := [(3, ak9 Tryz.f128 0)]) (its := [209]) (by kernel_rfl) ⟨aoL (Y := 1012800) (by kernel_rfl) (by kernel_rfl), trivial⟩ (by kernel_rfl) ⟨⟨_, Tryz.func209, by kernel_rfl, by kernel_rfl⟩, trivial⟩) (by kernel_rfl) aiz
theorem ai1 : AX pc := (ai0).x (by kernel_rfl)
def oP : Ent := ⟨232, Qk, Qd, mX⟩
theorem yD : AX oP := Af0 (l := []) Tryz.func232 trivial
def pI : Ent := ⟨210, Qm, Qd, vB⟩
theorem aah : AX pI := Af0 (l := [oP]) Tryz.func210 ⟨yD, trivial⟩
def lN : Ent := ⟨211, Qk, Qd, kn⟩
theorem vg : AX lN := Af0 (l := []) Tryz.func211 trivial
def dY : Lp := Lp1 ⟨[(0, .dat (.list .str)), (1, DS), (6, DI), (7, DI), (8, DI)], []⟩ 0 ⟨[(0, .dat (.list .str)), (1, DS), (6, DI), (7, DI)], []⟩
def eP : Ent := ⟨166, ⟨[(0, .dat (.list .str)), (1, DS)], []⟩, ⟨[(0, DI), (1, DB)], []⟩, gb⟩
def cA : Fx := AFl [pI, lN] [(0, dY.go eY 0)] 0
theorem eX : aC Tryz.prog (cA).Γ := al ⟨aah, vg, trivial⟩
theorem jR : LA cA Tryz.f166 0 0 := Als (L := dY) (b := eW) (m := []) eX trivial
theorem kg : AX eP := Afs (F := cA) (fn := Tryz.f166) (m := lp Tryz.f166 [0]) eX Tryz.func166 ⟨jR, trivial⟩
def uh : Ent := ⟨131, ⟨[(0, DS), (1, .dat (.list .str))], []⟩, Qv, ahs⟩
theorem aiq : AX uh := Af0 (l := [eP]) Tryz.func131 ⟨kg, trivial⟩
def pQ : Ent := ⟨130, ⟨[(0, .dat aw), (1, .dat ag), (2, DB)], []⟩, ⟨[(0, .dat ag), (1, DB)], []⟩, adu⟩
theorem afT : AX pQ := Af0 (l := []) Tryz.func130 trivial
def ze : Lp := ⟨⟨[(1, DS), (2, .ptr 0 aD 0 []), (4, .ptr 1 ag 0 []), (5, .ptr 2 .bool 0 []), (6, .ptr 3 (.int .i64) 0 []), (8, DI), (1000000000, .dfr 129 [(.ptr 3 (.int .i64) 0 [])] [(.ptr 1 ag 0 []), (.ptr 2 .bool 0 [])] aw)], [.box 36 aD (.dat aD), .box 58 ag (.agg [DS, DS, DI]), .box 4 .bool DB, .box 3 (.int .i64) DI]⟩, .ret, Qq, (.exit 80000000), ⟨[], []⟩⟩
def iN : Lp := ⟨Qq, .nrm, ⟨[(4, .ptr 0 ag 0 []), (5, .ptr 1 .bool 0 []), (6, .ptr 2 (.int .i64) 0 []), (7, DI)], [.box 58 ag (.dat ag), .box 4 .bool DB, .box 3 (.int .i64) DI]⟩, (.exit 80000000), ⟨[], []⟩⟩
def wI : Shape := ⟨[(0, .dat aD), (1, DS)], []⟩
def wJ : Shape := ⟨[(0, .dat ag), (1, DB), (2, DI), (3, DI)], []⟩
def w7 : Ent := ⟨81, wI, wJ, afU⟩
def nO : Fx := { cx := Acx, Γ := dp [lh, lP, su, pc, uh, pQ], Λ := fun k st => bif Nat.beq k 0 then ze.go adw 0 st else bif Nat.beq k gd then iN.go ya 0 st else .fail, keep := fun _ => none, m := 0, dfr := fun k => bif Nat.beq k 0 then some (129, [6], [4, 5], aw) else none }
def aaM : Fx := ac0 Acx (dp [lh, lP, su, pc, uh, pQ]) (fun _ _ => .fail) 3
theorem afV (s : iN.S.ty.den) : @Eq (Option (iN.S.ty.den ⊕ iN.Out)) (uz iN (nO).m aaM 129 Tryz.f129 s).val (xZ s) := by kernel_rfl
theorem ajH (s : wI.ty.den) : @Eq (Option wJ.ty.den) (ale nO Tryz.f81 wI wJ s).val (afU s) := by kernel_rfl
theorem yb : aC Tryz.prog (nO).Γ := al ⟨rP, vo, agS, ai1, aiq, afT, trivial⟩
theorem ai2 : LA nO Tryz.f81 0 0 := Als (L := ze) (b := adv) (m := []) yb trivial
theorem ajI : EntOK Tryz.prog w7 :=
  akj (F := nO) (Fd := aaM) (L := iN) (fd := 129) (fnd := Tryz.f129) (b := xZ) (g := ya) lC yb ee (fn := Tryz.f81) (m := lp Tryz.f81 [0]) Tryz.func81 (by kernel_rfl) (by kernel_rfl) (by kernel_rfl) ⟨ai2, trivial⟩ (fun _ => rfl) (by kernel_rfl) lC yb Tryz.func129 (by kernel_rfl) (by kernel_rfl) (by kernel_rfl) (by kernel_rfl) afV (by kernel_rfl) ajH
theorem ajJ : AX w7 := (ajI).x (by kernel_rfl)
def nA : Shape := ⟨[(0, .dat aD), (1, DS)], []⟩
def nC : Shape := QS
def agf : Ent := ⟨47, nA, nC, aak⟩
def agi : Fx := AF0 [w7]
theorem agt : EntOK Tryz.prog agf := Afk (F := agi) (fn := Tryz.f47) (m := []) (al ⟨ajJ, trivial⟩) Tryz.func47 trivial
def fh : Lp := ⟨⟨[(0, .dat (.list ag)), (1, .dat (.list ag)), (12, DI), (13, DI)], []⟩, .ret, QE, (.exit 0), ⟨[], []⟩⟩
def fX : Ent := ⟨122, Q5, Qd, cw⟩
def dh : Fx := AFl [] [(0, fh.go dk 0)] 0
theorem gc : aC Tryz.prog (dh).Γ := al trivial
theorem kX : LA dh Tryz.f122 0 0 := Als (L := fh) (b := bE) (m := []) gc trivial
theorem lJ : AX fX := Afs (F := dh) (fn := Tryz.f122) (m := lp Tryz.f122 [0]) gc Tryz.func122 ⟨kX, trivial⟩
def gM : Lp := ⟨⟨[(0, .dat (.list .str)), (1, .dat (.list .str)), (12, DI), (13, DI)], []⟩, .ret, QE, (.exit 0), ⟨[], []⟩⟩
def iu : Ent := ⟨123, ⟨[(0, .dat (.list .str)), (1, .dat (.list .str))], []⟩, Qd, d9⟩
def dX : Fx := AFl [] [(0, gM.go eo 0)] 0
theorem iw : aC Tryz.prog (dX).Γ := al trivial
theorem nu : LA dX Tryz.f123 0 0 := Als (L := gM) (b := bQ) (m := []) iw trivial
theorem oj : AX iu := Afs (F := dX) (fn := Tryz.f123) (m := lp Tryz.f123 [0]) iw Tryz.func123 ⟨nu, trivial⟩
def jX : Lp := ⟨⟨[(0, .dat (.list (.int .i64))), (1, .dat (.list (.int .i64))), (12, DI), (13, DI)], []⟩, .ret, QE, (.exit 0), ⟨[], []⟩⟩
def li : Ent := ⟨124, ⟨[(0, .dat (.list (.int .i64))), (1, .dat (.list (.int .i64)))], []⟩, Qd, gE⟩
def gX : Fx := AFl [] [(0, jX.go io 0)] 0
theorem lA : aC Tryz.prog (gX).Γ := al trivial
theorem sL : LA gX Tryz.f124 0 0 := Als (L := jX) (b := da) (m := []) lA trivial
theorem tV : AX li := Afs (F := gX) (fn := Tryz.f124) (m := lp Tryz.f124 [0]) lA Tryz.func124 ⟨sL, trivial⟩
def fZ : Lp := ⟨⟨[(0, .dat (.list aQ)), (1, .dat (.list aQ)), (12, DI), (13, DI)], []⟩, .ret, QE, (.exit 0), ⟨[], []⟩⟩
def gL : Ent := ⟨125, ⟨[(0, .dat (.list aQ)), (1, .dat (.list aQ))], []⟩, Qd, cS⟩
def dH : Fx := AFl [] [(0, fZ.go dJ 0)] 0
theorem gP : aC Tryz.prog (dH).Γ := al trivial
theorem mH : LA dH Tryz.f125 0 0 := Als (L := fZ) (b := bK) (m := []) gP trivial
theorem mR : AX gL := Afs (F := dH) (fn := Tryz.f125) (m := lp Tryz.f125 [0]) gP Tryz.func125 ⟨mH, trivial⟩
def fY : Lp := ⟨⟨[(0, .dat (.list ah)), (1, .dat (.list ah)), (12, DI), (13, DI)], []⟩, .ret, QE, (.exit 0), ⟨[], []⟩⟩
def gK : Ent := ⟨126, ⟨[(0, .dat (.list ah)), (1, .dat (.list ah))], []⟩, Qd, cR⟩
def dG : Fx := AFl [] [(0, fY.go dI 0)] 0
theorem gO : aC Tryz.prog (dG).Γ := al trivial
theorem mG : LA dG Tryz.f126 0 0 := Als (L := fY) (b := bJ) (m := []) gO trivial
theorem mQ : AX gK := Afs (F := dG) (fn := Tryz.f126) (m := lp Tryz.f126 [0]) gO Tryz.func126 ⟨mG, trivial⟩
def aa8 : Ent := ⟨79, ⟨[(0, .dat az), (1, .dat az)], []⟩, Qd, yj⟩
theorem ahH : AX aa8 := Af0 (l := [fX, iu, li, gL, gK]) Tryz.func79 ⟨lJ, oj, tV, mR, mQ, trivial⟩
def ru : Lp := Lp1 ⟨[(2, .ptr 0 ak 0 []), (5, DI), (9, .dat (.list aB)), (10, DI), (11, DI)], [.box 32 ak (.dat ak)]⟩ 0 ⟨[(5, DI)], []⟩
def kF : Shape := ⟨[(0, .dat ak), (1, .dat ak)], []⟩
def kH : Shape := Qv
def kB : Ent := ⟨20, kF, kH, iA⟩
def o6 : Fx := AFl [aa8] [(0, ru.go oB 0)] 0
theorem vC : aC Tryz.prog (o6).Γ := al ⟨ahH, trivial⟩
theorem acp : LA o6 Tryz.f20 0 0 := Als (L := ru) (b := eJ) (m := []) vC trivial
theorem vD : EntOK Tryz.prog kB := Afk (F := o6) (fn := Tryz.f20) (m := lp Tryz.f20 [0]) vC Tryz.func20 ⟨acp, trivial⟩
theorem vE : AX kB := vD.x (by kernel_rfl)
def pK : Ent := ⟨106, ⟨[(0, .ptr 0 ri 0 []), (1, DI)], [.box 164 ri (.agg [QM])]⟩, ⟨[], [.box 164 ri (.agg [QM])]⟩, vF⟩
def zY : Fx := AFl [] [] 1
theorem aal : AX pK := Afs (F := zY) (fn := Tryz.f106) (m := []) (al trivial) Tryz.func106 trivial
def pg : Shape := ⟨[(0, .dat aD), (1, .dat aD), (2, DI)], []⟩
def ph : Shape := QH
def ahv : Ent := ⟨48, pg, ph, acl⟩
def ahw : Fx := AF0 [kB, pK]
theorem ahG : EntOK Tryz.prog ahv := Afk (F := ahw) (fn := Tryz.f48) (m := []) (al ⟨vE, aal, trivial⟩) Tryz.func48 trivial
def v3 : Ent := ⟨147, ⟨[(0, DI), (1, DI), (2, DI)], []⟩, Qd, p8⟩
theorem adQ : AX v3 := Af0 (l := []) Tryz.func147 trivial
def yY : Ent := ⟨90, ⟨[(0, .dat vl)], []⟩, Qd, afZ⟩
theorem agT : AX yY := Af0 (l := [v3]) Tryz.func90 ⟨adQ, trivial⟩
def yN : Ent := ⟨112, ⟨[(0, .dat aB)], []⟩, Qd, aas⟩
theorem ag5 : AX yN := Af0 (l := []) Tryz.func112 trivial
def dT : Lp := ⟨⟨[(0, .dat (.list aB)), (1, .fn 112 [] []), (7, DI), (8, DI)], []⟩, .ret, ⟨[(4, DI)], []⟩, (.exit 0), ⟨[], []⟩⟩
def ew : Ent := ⟨111, ⟨[(0, .dat (.list aB)), (1, .fn 112 [] [])], []⟩, Qv, bU⟩
def ct : Fx := AFl [yN] [(0, dT.go cy 0)] 0
theorem eH : aC Tryz.prog (ct).Γ := al ⟨ag5, trivial⟩
theorem j5 : LA ct Tryz.f111 0 0 := Als (L := dT) (b := bo) (m := []) eH trivial
theorem jT : AX ew := Afs (F := ct) (fn := Tryz.f111) (m := lp Tryz.f111 [0]) eH Tryz.func111 ⟨j5, trivial⟩
def sg : Ent := ⟨104, ⟨[(0, .dat ak)], []⟩, ⟨[(0, .agg [(.own aB 0)])], [.arr 87 aB false]⟩, qK⟩
theorem zr : AX sg := Af0 (l := []) Tryz.func104 trivial
def yZ : Lp := ⟨⟨[(2, .ptr 0 ak 0 []), (3, .ptr 1 az 0 []), (4, .ptr 2 ak 0 []), (14, .dat (.list (.int .i64))), (15, DI), (16, DI)], Q4⟩, .ret, ⟨[(4, .ptr 0 ak 0 []), (5, DI), (6, DI)], [.box 32 ak (.dat ak)]⟩, (.exit 0), ⟨[(2, .ptr 0 ak 0 []), (3, .ptr 1 az 0 []), (4, .ptr 2 ak 0 [])], Q4⟩⟩
def za : Lp := Lp1 ⟨[(4, .ptr 0 ak 0 []), (9, DI), (10, .ptr 1 ak 0 []), (57, .dat (.list (.int .i64))), (58, DI), (59, DI)], Qp⟩ 2 ⟨[(4, .ptr 0 ak 0 []), (9, DI), (10, .ptr 1 ak 0 [])], Qp⟩
def wl : Ent := ⟨63, ⟨[(0, .dat ak), (1, .dat az)], []⟩, ⟨[(0, .dat ak), (1, DI), (2, DI)], []⟩, qJ⟩
def rq : Fx := AFl [oZ, ew, sg] [(0, yZ.go xg 0), (2, za.go xh 0)] 0
theorem xd : aC Tryz.prog (rq).Γ := al ⟨uL, jT, zr, trivial⟩
theorem aie : LA rq Tryz.f63 0 0 := Als (L := yZ) (b := nW) (m := []) xd trivial
theorem aif : LA rq Tryz.f63 2 1 := Als (L := za) (b := nX) (m := []) xd trivial
theorem adc : AX wl := Afs (F := rq) (fn := Tryz.f63) (m := lp Tryz.f63 [0, 2]) xd Tryz.func63 ⟨aie, aif, trivial⟩
def rz : Shape := ⟨[(0, .dat vl)], []⟩
def rB : Shape := ⟨[(0, .dat aD), (1, DI)], []⟩
def ai6 : Ent := ⟨40, rz, rB, afY⟩
def ai8 : Fx := AF0 [yY, wl]
theorem ajK : EntOK Tryz.prog ai6 := Afk (F := ai8) (fn := Tryz.f40) (m := []) (al ⟨agT, adc, trivial⟩) Tryz.func40 trivial
def n9 : Shape := QS
def nB : Shape := Qv
def age : Ent := ⟨49, n9, nB, aaj⟩
def agh : Fx := AF0 []
theorem ags : EntOK Tryz.prog age := Afk (F := agh) (fn := Tryz.f49) (m := []) (al trivial) Tryz.func49 trivial
def kG : Shape := ⟨[], []⟩
def kI : Shape := Qd
def ot : Ent := ⟨12, kG, kI, uA⟩
def o7 (x_ref12_Of : ((List aa) × (List (List UInt8)) × (List ae) × Unit) -> Option (am × Unit)) (x_cost_Weight : (am × Unit) -> Option bF) (x_cost_Reads : (am × (List UInt8) × Unit) -> Option bF) (x_cost_Written : (au × au × Unit) -> Option (Int × Unit)) (x_cost_Bill : (am × am × Int × Unit) -> Option hK) (x_tree_New : (aT × Unit) -> Option (am × Int × Unit)) (x_cost_Limit : bF -> Option (Int × Unit)) : Fx := AF0 [⟨46, ry, rA, x_ref12_Of⟩, ⟨16, lS, lT, x_cost_Weight⟩, ⟨47, nA, nC, x_cost_Reads⟩, ⟨20, kF, kH, x_cost_Written⟩, ⟨48, pg, ph, x_cost_Bill⟩, ⟨40, rz, rB, x_tree_New⟩, ⟨49, n9, nB, x_cost_Limit⟩]
theorem ad1 (x_ref12_Of : ((List aa) × (List (List UInt8)) × (List ae) × Unit) -> Option (am × Unit)) (x_cost_Weight : (am × Unit) -> Option bF) (x_cost_Reads : (am × (List UInt8) × Unit) -> Option bF) (x_cost_Written : (au × au × Unit) -> Option (Int × Unit)) (x_cost_Bill : (am × am × Int × Unit) -> Option hK) (x_tree_New : (aT × Unit) -> Option (am × Int × Unit)) (x_cost_Limit : bF -> Option (Int × Unit)) (s : kG.ty.den) : @Eq (Option kI.ty.den) (aeB (o7 x_ref12_Of x_cost_Weight x_cost_Reads x_cost_Written x_cost_Bill x_tree_New x_cost_Limit) Tryz.f12 kG kI s).val (lX x_ref12_Of x_cost_Weight x_cost_Reads x_cost_Written x_cost_Bill x_tree_New x_cost_Limit s) := by kernel_rfl
theorem ad2 (x_ref12_Of : ((List aa) × (List (List UInt8)) × (List ae) × Unit) -> Option (am × Unit)) (x_ref12_Of_ok : EntOK Tryz.prog ⟨46, ry, rA, x_ref12_Of⟩) (x_cost_Weight : (am × Unit) -> Option bF) (x_cost_Weight_ok : EntOK Tryz.prog ⟨16, lS, lT, x_cost_Weight⟩) (x_cost_Reads : (am × (List UInt8) × Unit) -> Option bF) (x_cost_Reads_ok : EntOK Tryz.prog ⟨47, nA, nC, x_cost_Reads⟩) (x_cost_Written : (au × au × Unit) -> Option (Int × Unit)) (x_cost_Written_ok : EntOK Tryz.prog ⟨20, kF, kH, x_cost_Written⟩) (x_cost_Bill : (am × am × Int × Unit) -> Option hK) (x_cost_Bill_ok : EntOK Tryz.prog ⟨48, pg, ph, x_cost_Bill⟩) (x_tree_New : (aT × Unit) -> Option (am × Int × Unit)) (x_tree_New_ok : EntOK Tryz.prog ⟨40, rz, rB, x_tree_New⟩) (x_cost_Limit : bF -> Option (Int × Unit)) (x_cost_Limit_ok : EntOK Tryz.prog ⟨49, n9, nB, x_cost_Limit⟩) : aC Tryz.prog (o7 x_ref12_Of x_cost_Weight x_cost_Reads x_cost_Written x_cost_Bill x_tree_New x_cost_Limit).Γ := al ⟨(x_ref12_Of_ok.x (by kernel_rfl)), (x_cost_Weight_ok.x (by kernel_rfl)), (x_cost_Reads_ok.x (by kernel_rfl)), (x_cost_Written_ok.x (by kernel_rfl)), (x_cost_Bill_ok.x (by kernel_rfl)), (x_tree_New_ok.x (by kernel_rfl)), (x_cost_Limit_ok.x (by kernel_rfl)), trivial⟩
theorem wY (x_ref12_Of : ((List aa) × (List (List UInt8)) × (List ae) × Unit) -> Option (am × Unit)) (x_ref12_Of_ok : EntOK Tryz.prog ⟨46, ry, rA, x_ref12_Of⟩) (x_cost_Weight : (am × Unit) -> Option bF) (x_cost_Weight_ok : EntOK Tryz.prog ⟨16, lS, lT, x_cost_Weight⟩) (x_cost_Reads : (am × (List UInt8) × Unit) -> Option bF) (x_cost_Reads_ok : EntOK Tryz.prog ⟨47, nA, nC, x_cost_Reads⟩) (x_cost_Written : (au × au × Unit) -> Option (Int × Unit)) (x_cost_Written_ok : EntOK Tryz.prog ⟨20, kF, kH, x_cost_Written⟩) (x_cost_Bill : (am × am × Int × Unit) -> Option hK) (x_cost_Bill_ok : EntOK Tryz.prog ⟨48, pg, ph, x_cost_Bill⟩) (x_tree_New : (aT × Unit) -> Option (am × Int × Unit)) (x_tree_New_ok : EntOK Tryz.prog ⟨40, rz, rB, x_tree_New⟩) (x_cost_Limit : bF -> Option (Int × Unit)) (x_cost_Limit_ok : EntOK Tryz.prog ⟨49, n9, nB, x_cost_Limit⟩) : EntOK Tryz.prog ⟨12, kG, kI, lX x_ref12_Of x_cost_Weight x_cost_Reads x_cost_Written x_cost_Bill x_tree_New x_cost_Limit⟩ :=
  tu (F := (o7 x_ref12_Of x_cost_Weight x_cost_Reads x_cost_Written x_cost_Bill x_tree_New x_cost_Limit)) lC (ad2 x_ref12_Of x_ref12_Of_ok x_cost_Weight x_cost_Weight_ok x_cost_Reads x_cost_Reads_ok x_cost_Written x_cost_Written_ok x_cost_Bill x_cost_Bill_ok x_tree_New x_tree_New_ok x_cost_Limit x_cost_Limit_ok) ee (fn := Tryz.f12) (m := []) Tryz.func12 (by kernel_rfl) (by kernel_rfl) (by kernel_rfl) trivial (bM _ (by kernel_rfl)) (by kernel_rfl) (ad1 x_ref12_Of x_cost_Weight x_cost_Reads x_cost_Written x_cost_Bill x_tree_New x_cost_Limit)
theorem ad3 : EntOK Tryz.prog ot := wY af7 ajz eh wQ aak agt iA vD acl ahG afY ajK aaj ags
theorem ad4 : AX ot := (ad3).x (by kernel_rfl)
def aaF : Ent := ⟨83, QN, Qk, pD⟩
theorem aik : AX aaF := Af0 (l := []) Tryz.func83 trivial
def yR : Ent := ⟨109, ⟨[(0, .dat QL)], []⟩, ⟨[(0, .dat ag)], []⟩, uQ⟩
theorem agB : AX yR := Af0 (l := [aaF]) Tryz.func109 ⟨aik, trivial⟩

end D
open Go Go.X Go.Proofs D
namespace D
def wC : Lp := Lp1 ⟨[(0, .dat (.list ag)), (3, .ptr 0 ag 0 []), (5, .own ag 1), (6, DB), (7, DI)], [.box 58 ag (.dat ag), .arr 58 ag false]⟩ 0 ⟨[(3, .ptr 0 ag 0 []), (5, .own ag 1), (6, DB)], [.box 58 ag (.dat ag), .arr 58 ag false]⟩
def aaG : Ent := ⟨108, ⟨[(0, .dat (.list ag)), (1, .dat ag)], []⟩, Qe, yx⟩
def um : Fx := AFl [] [(0, wC.go uR 0)] 0
theorem ab2 : aC Tryz.prog (um).Γ := al trivial
theorem agC : LA um Tryz.f108 0 0 := Als (L := wC) (b := mf) (m := []) ab2 trivial
theorem ail : AX aaG := Afs (F := um) (fn := Tryz.f108) (m := lp Tryz.f108 [0]) ab2 Tryz.func108 ⟨agC, trivial⟩
def v6 : Lp := Lp1 ⟨[(0, .dat (.list QL)), (3, .own ag 0), (4, DI)], QC⟩ 0 ⟨[(3, .own ag 0)], QC⟩
def yQ : Ent := ⟨51, ⟨[(0, .dat (.list QL))], []⟩, Qe, qR⟩
def sy : Fx := AFl [yR, aaG] [(0, v6.go nH 0)] 0
theorem zD : aC Tryz.prog (sy).Γ := al ⟨agB, ail, trivial⟩
theorem afx : LA sy Tryz.f51 0 0 := Als (L := v6) (b := iQ) (m := []) zD trivial
theorem agA : AX yQ := Afs (F := sy) (fn := Tryz.f51) (m := lp Tryz.f51 [0]) zD Tryz.func51 ⟨afx, trivial⟩
def gY : Shape := ⟨[(0, .dat ak), (1, .dat (.list ag)), (2, .dat af), (3, .dat (.list (.list .str))), (4, .dat cD)], []⟩
def gZ : Shape := ⟨[(0, .dat bW)], []⟩
def fm (ref12_build_r : (au × (List aa) × ac × (List (List (List UInt8))) × a9 × Unit) -> Option (aH × Unit)) : Ent := ⟨50, gY, gZ, ref12_build_r⟩
def ug : Ent := ⟨76, Qu, ⟨[(0, .dat az), (1, DI)], []⟩, pF⟩
theorem ab9 : AX ug := Af0 (l := [n8]) Tryz.func76 ⟨sK, trivial⟩
def sn : Ent := ⟨54, QN, Qk, gH⟩
theorem zG : AX sn := Af0 (l := []) Tryz.func54 trivial
def aaH : Ent := ⟨52, QN, Qk, pE⟩
theorem aim : AX aaH := Af0 (l := [sn]) Tryz.func52 ⟨zG, trivial⟩
def rx : Lp := Lp1 QT 0 QT
def kE : Ent := ⟨53, Qk, Qw, ref02_Prefix⟩
def o9 : Fx := AFl [] [(0, rx.go vS 0)] 0
theorem vR : aC Tryz.prog (o9).Γ := al trivial
theorem ac4 : LA o9 Tryz.f53 0 0 := Als (L := rx) (b := vQ) (m := []) vR trivial
theorem oK : AX kE := Afs (F := o9) (fn := Tryz.f53) (m := lp Tryz.f53 [0]) vR Tryz.func53 ⟨ac4, trivial⟩
def vt : Ent := ⟨56, Qm, Qd, iF⟩
theorem ad9 : AX vt := Af0 (l := []) Tryz.func56 trivial
def wu : Ent := ⟨57, QN, Qk, jx⟩
theorem af1 : AX wu := Af0 (l := []) Tryz.func57 trivial
def uc : Ent := ⟨55, Qk, Qw, gh⟩
theorem ab0 : AX uc := Af0 (l := []) Tryz.func55 trivial
def bL : Lp := ⟨⟨[(1, .ptr 0 Qa 0 []), (2, .ptr 1 ah 0 []), (3, DS), (5, .ptr 2 af 0 []), (6, DS), (7, DS), (63, DB)], Ql⟩, .nrm, ⟨QQ, Ql⟩, (.exit 90100013), ⟨[], []⟩⟩
def cG : Lp := ⟨⟨QQ, Ql⟩, .ret, QP, (.exit 90000016), ⟨[], []⟩⟩
def cF : Lp := ⟨⟨[(1, .ptr 0 Qa 0 []), (2, .ptr 1 ah 0 []), (3, DS), (5, .ptr 2 af 0 [])], Ql⟩, .ret, QP, (.exit 90000011), ⟨[], []⟩⟩
def fe : Ent := ⟨14, ⟨[(0, .dat Qa)], []⟩, Qf, kU⟩
def cp : Fx := AF0 [sn, aaH, kE, vt, wu, uc]
def fc : agl := [(100013, bL.go cn 0), (16, cG.go dq 0), (11, cF.go bP 0)]
theorem wd (s : bL.S.ty.den) : @Eq (Option bL.Out) ((evK cp fc (iY (aG Tryz.f14) 100013) 0 (bL.S.enc s)).bind fun (e, st) => bL.out (cp).m e st).val (cn s) := by kernel_rfl
theorem ab5 (s : cG.S.ty.den) : @Eq (Option cG.Out) ((evK cp fc (iY (aG Tryz.f14) 16) 0 (cG.S.enc s)).bind fun (e, st) => cG.out (cp).m e st).val (dq s) := by kernel_rfl
theorem ab3 (s : cF.S.ty.den) : @Eq (Option cF.Out) ((evK cp fc (iY (aG Tryz.f14) 11) 0 (cF.S.enc s)).bind fun (e, st) => cF.out (cp).m e st).val (bP s) := by kernel_rfl
theorem agE (s : (fe).S.ty.den) : (aiQ cp fc Tryz.f14 (fe).S (fe).Z s).val = (fe).g s := by kernel_rfl
theorem nI : aC Tryz.prog (cp).Γ := al ⟨zG, aim, oK, ad9, af1, ab0, trivial⟩
theorem we : wK Tryz.prog cp Tryz.f14.ntmps (bL.go cn 0) (iY (aG Tryz.f14) 100013) :=
  pB lC nI ee (L := bL) (k := 0) (f := cn) (C := fc) (l := []) (m := []) (by kernel_rfl) trivial (by kernel_rfl) trivial (by kernel_rfl) (bM _ (by kernel_rfl)) wd
theorem ab6 : wK Tryz.prog cp Tryz.f14.ntmps (cG.go dq 0) (iY (aG Tryz.f14) 16) :=
  pB lC nI ee (L := cG) (k := 0) (f := dq) (C := fc) (l := []) (m := []) (by kernel_rfl) trivial (by kernel_rfl) trivial (by kernel_rfl) (bM _ (by kernel_rfl)) ab5
theorem ab4 : wK Tryz.prog cp Tryz.f14.ntmps (cF.go bP 0) (iY (aG Tryz.f14) 11) :=
  pB lC nI ee (L := cF) (k := 0) (f := bP) (C := fc) (l := []) (m := [(bL.go cn 0, iY (aG Tryz.f14) 100013), (cG.go dq 0, iY (aG Tryz.f14) 16)]) (by kernel_rfl) trivial (by kernel_rfl) ⟨we, ab6, trivial⟩ (by kernel_rfl) (bM _ (by kernel_rfl)) ab3
theorem agF : EntOK Tryz.prog fe :=
  aeG (C := fc) (F := cp) lC nI ee (fn := Tryz.f14) (l := []) (m := [(cF.go bP 0, iY (aG Tryz.f14) 11)]) Tryz.func14 (by kernel_rfl) (by kernel_rfl) (by kernel_rfl) trivial (by kernel_rfl) ⟨ab4, trivial⟩ (bM _ (by kernel_rfl)) (by kernel_rfl) agE
theorem zF : AX fe := (agF).x (by kernel_rfl)
def v7 : Lp := Lp1 ⟨[(0, .dat (.list Qa)), (1, DI), (5, .own ah 0), (6, DI)], Q1⟩ 0 ⟨[(5, .own ah 0)], Q1⟩
def yS : Ent := ⟨41, ⟨[(0, .dat (.list Qa)), (1, DI)], []⟩, Qz, uS⟩
def s5 : Fx := AFl [fe] [(0, v7.go sH 0)] 0
theorem zE : aC Tryz.prog (s5).Γ := al ⟨zF, trivial⟩
theorem afy : LA s5 Tryz.f41 0 0 := Als (L := v7) (b := iR) (m := []) zE trivial
theorem agD : AX yS := Afs (F := s5) (fn := Tryz.f41) (m := lp Tryz.f41 [0]) zE Tryz.func41 ⟨afy, trivial⟩
def ws : Ent := ⟨203, Qf, Qi, ej⟩
theorem afz : AX ws := Af0 (l := [kE]) Tryz.func203 ⟨oK, trivial⟩
def ov : Ent := ⟨26, Qf, Qi, bj⟩
theorem vW : AX ov := Af0 (l := [kE, uc]) Tryz.func26 ⟨oK, ab0, trivial⟩
def vu : Ent := ⟨204, QU, Qd, pq⟩
theorem adA : AX vu := Af0 (l := [sj, lL]) Tryz.func204 ⟨zB, qO, trivial⟩
def v8 : Lp := ⟨⟨[(3, .ptr 0 af 0 []), (5, .own af 1), (6, DI)], QB⟩, .ret, QE, (.exit 0), ⟨[], []⟩⟩
def yT : Ent := ⟨159, ⟨[(0, .dat ah), (1, .dat af)], []⟩, Qd, ref08_Lies⟩
def s6 : Fx := AFl [ws, ov, vu] [(0, v8.go sI 0)] 0
theorem zH : aC Tryz.prog (s6).Γ := al ⟨afz, vW, adA, trivial⟩
theorem af2 : LA s6 Tryz.f159 0 0 := Als (L := v8) (b := ku) (m := []) zH trivial
theorem agG : AX yT := Afs (F := s6) (fn := Tryz.f159) (m := lp Tryz.f159 [0]) zH Tryz.func159 ⟨af2, trivial⟩
def qe : Lp := Lp1 ⟨[(2, DI), (4, .ptr 0 af 0 []), (7, .own ah 1), (8, .own ah 2), (9, DI)], [.box 39 af (.dat af), .arr 41 ah false, .arr 41 ah false]⟩ 0 ⟨[(7, .own ah 0)], Q1⟩
def sU : Ent := ⟨107, ⟨[(0, .dat (.list Qa)), (1, .dat af), (2, DI)], []⟩, Qz, gJ⟩
def mV : Fx := AFl [yS, yT] [(0, qe.go np 0)] 0
theorem tP : aC Tryz.prog (mV).Γ := al ⟨agD, agG, trivial⟩
theorem abD : LA mV Tryz.f107 0 0 := Als (L := qe) (b := dR) (m := []) tP trivial
theorem ac7 : AX sU := Afs (F := mV) (fn := Tryz.f107) (m := lp Tryz.f107 [0]) tP Tryz.func107 ⟨abD, trivial⟩
def fo : Lp := Lp1 ⟨[(1, .dat (.list ag)), (3, .dat (.list (.list .str))), (5, .ptr 0 ak 0 []), (7, .ptr 1 af 0 []), (9, .ptr 2 cD 0 []), (10, .ptr 3 bW 0 []), (11, .own .str 4), (12, DI)], QG⟩ 0 ⟨[(1, .dat (.list ag)), (3, .dat (.list (.list .str))), (5, .ptr 0 ak 0 []), (7, .ptr 1 af 0 []), (9, .ptr 2 cD 0 []), (10, .ptr 3 bW 0 []), (11, .own .str 4)], QG⟩
def fq : Lp := Lp1 ⟨[(1, .dat (.list ag)), (3, .dat (.list (.list .str))), (5, .ptr 0 ak 0 []), (7, .ptr 1 af 0 []), (9, .ptr 2 cD 0 []), (10, .ptr 3 bW 0 []), (14, .ptr 4 az 0 []), (16, .own af 5), (17, DI)], [.box 32 ak (.dat ak), .box 39 af (.dat af), .box 26 cD (.dat cD), .box 114 bW (.agg [Qg, DI]), .box 85 az (.agg [(.dat (.list ag)), (.own .str 6), (.own (.int .i64) 7), (.own aQ 8), (.dat (.list ah))]), .arr 39 af false, .arr 9 .str true, .arr 3 (.int .i64) false, .arr 95 aQ false]⟩ 2 ⟨[(5, .ptr 0 ak 0 []), (7, .ptr 1 af 0 []), (9, .ptr 2 cD 0 []), (10, .ptr 3 bW 0 []), (14, .ptr 4 az 0 [])], [.box 32 ak (.dat ak), .box 39 af (.dat af), .box 26 cD (.dat cD), .box 114 bW (.agg [Qg, DI]), .box 85 az (.agg [(.dat (.list ag)), (.own .str 5), (.own (.int .i64) 6), (.own aQ 7), (.dat (.list ah))]), .arr 9 .str true, .arr 3 (.int .i64) false, .arr 95 aQ false]⟩
end D
