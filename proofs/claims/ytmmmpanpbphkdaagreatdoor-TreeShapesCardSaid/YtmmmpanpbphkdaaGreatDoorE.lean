/- Entries, by program. -/
import Derived.Test.YtmmmpanpbphkdaaGreatDoorEb
set_option linter.unusedVariables false
set_option maxRecDepth 100000
open Go Go.X Go.Proofs D
namespace D
theorem tl : EntOK Tryz.prog cP := avT (g := fun a c => Lib.indexByte a c.toNat.toUInt8) Tryz.func297 (by kernel_rfl) rn
theorem lP : AX cP := tl.x (by kernel_rfl)
def vn : Ent := ⟨288, QL, Qr, zJ⟩
theorem af8 : AX vn := Af0 (l := [cP]) Tryz.func288 ⟨lP, trivial⟩
def qZ : Ent := ⟨289, ⟨[(0, .dat (.int .i32))], []⟩, Qe, uk⟩
theorem zh : AX qZ := Af0 (l := []) Tryz.func289 trivial
def tG : Lp := ⟨⟨[(175, .ptr 0 .unit 0 [])], [.iter]⟩, .ret, ⟨[(4, DI)], []⟩, (.exit 9), ⟨[], []⟩⟩
def vp : Ent := ⟨271, ⟨[(0, DS), (1, .dat (.int .i32))], []⟩, Qr, px⟩
def dE : Fx := AFl [vn, qZ] [(9, tG.go vR 0)] 0
theorem vP : aC Tryz.prog (dE).Γ := ai ⟨af8, zh, trivial⟩
theorem adU : LA dE Tryz.f271 1 1 := abm (fun _ => rfl)
theorem adV : LA dE Tryz.f271 3 2 := abm (fun _ => rfl)
theorem adW : LA dE Tryz.f271 5 3 := abm (fun _ => rfl)
theorem adX : LA dE Tryz.f271 7 4 := abm (fun _ => rfl)
theorem adT : LA dE Tryz.f271 9 0 := Als (L := tG) (b := vO) (m := []) vP trivial
theorem afA : AX vp := Afs (F := dE) (fn := Tryz.f271) (m := lp Tryz.f271 [9, 1, 3, 5, 7]) vP Tryz.func271 ⟨adT, adU, adV, adW, adX, trivial⟩
def nY : Ent := ⟨272, Qr, Qe, rg⟩
theorem wB : AX nY := Af0 (l := []) Tryz.func272 trivial
def sG : Lp := ⟨⟨[(1, DS), (45, .ptr 0 .unit 0 [])], [.iter]⟩, .ret, ⟨[(4, DI)], []⟩, (.exit 2), ⟨[], []⟩⟩
def adM : Ent := ⟨254, Qj, Qr, s8⟩
def lK : Fx := AFl [vp, nY] [(2, sG.go uv 0)] 0
theorem uu : aC Tryz.prog (lK).Γ := ai ⟨afA, wB, trivial⟩
theorem acQ : LA lK Tryz.f254 0 0 := abm (fun _ => rfl)
theorem acR : LA lK Tryz.f254 2 1 := Als (L := sG) (b := ut) (m := []) uu trivial
theorem adS : EntOK Tryz.prog adM := Afk (F := lK) (fn := Tryz.f254) (m := lp Tryz.f254 [0, 2]) uu Tryz.func254 ⟨acQ, acR, trivial⟩
def wE : Shape := Qj
def wF : Shape := Qr
def ri : Ent := ⟨254, wE, wF, abG⟩
theorem ag9 : EntOK Tryz.prog ri := auz (f := 254) (S := wE) (Z := wF) (g1 := s8) (g2 := aiT) adS (aqm Tryz.lays153 (by kernel_rfl) Tryz.func254 (by kernel_rfl))
theorem agA : AX ri := ag9.x (by kernel_rfl)
def zi : Ent := ⟨241, ⟨[(0, .ptr 0 qr 0 [0])], Q8⟩, ⟨[(0, DS), (1, .dat (.int .u8))], Q8⟩, afd⟩
def aiK : Fx := AFl [ri] [] 1
theorem aj0 : AX zi := Afs (F := aiK) (fn := Tryz.f241) (m := []) (ai ⟨agA, trivial⟩) Tryz.func241 trivial
def xz : Ent := ⟨224, ⟨[(0, .ptr 0 qr 0 [])], Q8⟩, ⟨[], Q8⟩, adA⟩
def ahV : Fx := AFl [pE, zi] [] 1
theorem aip : AX xz := Afs (F := ahV) (fn := Tryz.f224) (m := []) (ai ⟨vM, aj0, trivial⟩) Tryz.func224 trivial
def n8 : Ent := ⟨292, Qj, Qr, pU⟩
def nA : Fx := AF0 [cP]
theorem uG : LA nA Tryz.f292 1 0 := abm (fun _ => rfl)
theorem vA : AX n8 := Afs (F := nA) (fn := Tryz.f292) (m := lp Tryz.f292 [1]) (ai ⟨lP, trivial⟩) Tryz.func292 ⟨uG, trivial⟩
def pd : Ent := ⟨275, Qj, ⟨[(0, DS), (1, DS), (2, DB)], []⟩, rO⟩
theorem wT : AX pd := Af0 (l := [n8]) Tryz.func275 ⟨vA, trivial⟩
def aev : Ent := ⟨255, Qj, ⟨[(0, DS), (1, DS), (2, DB)], []⟩, al0⟩
theorem aok : AX aev := Af0 (l := [pd]) Tryz.func255 ⟨wT, trivial⟩
def aaJ : Ent := ⟨258, ⟨[(0, .dat (.int .i32))], []⟩, Qe, ahr⟩
theorem ak5 : AX aaJ := Af0 (l := []) Tryz.func258 trivial
def tH : Lp := ⟨⟨[(1, .fn 258 [] []), (2, DB), (10, .ptr 0 .unit 0 [])], [.iter]⟩, .ret, ⟨[(6, DI)], []⟩, (.exit 0), ⟨[], []⟩⟩
def vq : Ent := ⟨282, ⟨[(0, DS), (1, .fn 258 [] []), (2, DB)], []⟩, Qr, zN⟩
def pH : Fx := AFl [aaJ] [(0, tH.go vU 0)] 0
theorem vT : aC Tryz.prog (pH).Γ := ai ⟨ak5, trivial⟩
theorem adY : LA pH Tryz.f282 0 0 := Als (L := tH) (b := vS) (m := []) vT trivial
theorem afB : AX vq := Afs (F := pH) (fn := Tryz.f282) (m := lp Tryz.f282 [0]) vT Tryz.func282 ⟨adY, trivial⟩
def vo : Ent := ⟨257, ⟨[(0, DS), (1, .fn 258 [] [])], []⟩, Qr, zK⟩
theorem af9 : AX vo := Af0 (l := [vq]) Tryz.func257 ⟨afB, trivial⟩
def xy : Ent := ⟨244, Qn, Qe, afb⟩
theorem afc : AX xy := Af0 (l := [vo]) Tryz.func244 ⟨af9, trivial⟩
def adp : Lp := ⟨Qn, .ret, Q1, (.exit 0), ⟨[], []⟩⟩
def zW : Ent := ⟨242, Qn, Qe, aio⟩
def aag : Fx := AFl [aev, xy] [(0, adp.go ahp 0)] 0
theorem aho : aC Tryz.prog (aag).Γ := ai ⟨aok, afc, trivial⟩
theorem anu : LA aag Tryz.f242 0 0 := Als (L := adp) (b := ahn) (m := []) aho trivial
theorem ahq : AX zW := Afs (F := aag) (fn := Tryz.f242) (m := lp Tryz.f242 [0]) aho Tryz.func242 ⟨anu, trivial⟩
def pJ : Lp := Lp1 QL 0 Qn
def rG : Ent := ⟨277, QL, Qn, uw⟩
def mu : Fx := AFl [] [(0, pJ.go sc 0)] 0
theorem rZ : aC Tryz.prog (mu).Γ := ai trivial
theorem zg : LA mu Tryz.f277 0 0 := Als (L := pJ) (b := rY) (m := []) rZ trivial
theorem aa9 : AX rG := Afs (F := mu) (fn := Tryz.f277) (m := lp Tryz.f277 [0]) rZ Tryz.func277 ⟨zg, trivial⟩
def rc : Lp := Lp1 QL 0 Qn
def sD : Ent := ⟨276, QL, Qn, vV⟩
def mN : Fx := AFl [] [(0, rc.go ta 0)] 0
theorem sZ : aC Tryz.prog (mN).Γ := ai trivial
theorem aa8 : LA mN Tryz.f276 0 0 := Als (L := rc) (b := sY) (m := []) sZ trivial
theorem abH : AX sD := Afs (F := mN) (fn := Tryz.f276) (m := lp Tryz.f276 [0]) sZ Tryz.func276 ⟨aa8, trivial⟩
def aiH : Ent := ⟨256, Qj, Qn, yU⟩
def aiL : Fx := AF0 [rG, sD]
theorem ajV : EntOK Tryz.prog aiH := Afk (F := aiL) (fn := Tryz.f256) (m := []) (ai ⟨aa9, abH, trivial⟩) Tryz.func256 trivial
def ad0 : Shape := Qj
def ad1 : Shape := Qn
def wj : Ent := ⟨256, ad0, ad1, ajU⟩
theorem amf : EntOK Tryz.prog wj := auz (f := 256) (S := ad0) (Z := ad1) (g1 := yU) (g2 := afT) ajV (avh Tryz.lays160 (by kernel_rfl) Tryz.func256 (by kernel_rfl))
theorem amg : AX wj := amf.x (by kernel_rfl)

end D
open Go Go.X Go.Proofs D
namespace D
def aeh : Ent := ⟨243, Qn, Qe, alf⟩
theorem anv : AX aeh := Af0 (l := [wj]) Tryz.func243 ⟨amg, trivial⟩
def cU : Lp := ⟨⟨[(1, .ptr 0 aF 0 []), (86, DB)], Ra⟩, .nrm, ⟨[], []⟩, .ret, Q9⟩
def cT : Lp := ⟨⟨[(1, .ptr 0 aF 0 []), (4, .ptr 1 aF 0 []), (66, DB)], Q6⟩, .nrm, ⟨[], []⟩, .ret, Q9⟩
def cS : Lp := ⟨⟨[(1, .ptr 0 aF 0 []), (4, .ptr 1 aF 0 []), (35, DB)], Q6⟩, .nrm, ⟨[], []⟩, .ret, Q9⟩
def cR : Lp := ⟨⟨[(1, .ptr 0 aF 0 []), (4, .ptr 1 aF 0 []), (23, DB)], Q6⟩, .nrm, ⟨[], []⟩, .ret, Q9⟩
def cV : Lp := ⟨⟨[(1, .ptr 0 aF 0 []), (4, .ptr 1 aF 0 []), (22, DB)], Q6⟩, .nrm, ⟨[], []⟩, .ret, Q9⟩
def pC : Ent := ⟨225, Rt, ⟨[(0, DS), (1, DI)], []⟩, arJ⟩
def cA : Fx := AF0 [xy, zW, aeh]
def gq : aeC := [(100010, cU.go i4 0), (100008, cT.go fA 0), (100006, cS.go dT 0), (100004, cR.go iz 0), (300003, cV.go fB 0)]
theorem ag4 (s : cU.S.ty.den) : @Eq (Option cU.Out) ((evK cA gq (bf (au Tryz.f225) 100010) 0 (cU.S.enc s)).bind fun (e, st) => cU.out (cA).m e st).val (i4 s) := by kernel_rfl
theorem ag2 (s : cT.S.ty.den) : @Eq (Option cT.Out) ((evK cA gq (bf (au Tryz.f225) 100008) 0 (cT.S.enc s)).bind fun (e, st) => cT.out (cA).m e st).val (fA s) := by kernel_rfl
theorem ag0 (s : cS.S.ty.den) : @Eq (Option cS.Out) ((evK cA gq (bf (au Tryz.f225) 100006) 0 (cS.S.enc s)).bind fun (e, st) => cS.out (cA).m e st).val (dT s) := by kernel_rfl
theorem agy (s : cR.S.ty.den) : @Eq (Option cR.Out) ((evK cA gq (bf (au Tryz.f225) 100004) 0 (cR.S.enc s)).bind fun (e, st) => cR.out (cA).m e st).val (iz s) := by kernel_rfl
theorem ag6 (s : cV.S.ty.den) : @Eq (Option cV.Out) ((evK cA gq (bf (au Tryz.f225) 300003) 0 (cV.S.enc s)).bind fun (e, st) => cV.out (cA).m e st).val (fB s) := by kernel_rfl
theorem arK (s : (pC).S.ty.den) : (aje cA gq Tryz.f225 (pC).S (pC).Z s).val = (pC).g s := by kernel_rfl
theorem sR : aC Tryz.prog (cA).Γ := ai ⟨afc, ahq, anv, trivial⟩
theorem ag5 : lN Tryz.prog cA Tryz.f225.ntmps (cU.go i4 0) (bf (au Tryz.f225) 100010) :=
  cw fe sR bz (L := cU) (k := 0) (f := i4) (C := gq) (l := []) (m := []) (by kernel_rfl) trivial (by kernel_rfl) trivial (by kernel_rfl) (bd _ (by kernel_rfl)) ag4
theorem ag3 : lN Tryz.prog cA Tryz.f225.ntmps (cT.go fA 0) (bf (au Tryz.f225) 100008) :=
  cw fe sR bz (L := cT) (k := 0) (f := fA) (C := gq) (l := []) (m := [(cU.go i4 0, bf (au Tryz.f225) 100010)]) (by kernel_rfl) trivial (by kernel_rfl) ⟨ag5, trivial⟩ (by kernel_rfl) (bd _ (by kernel_rfl)) ag2
theorem ag1 : lN Tryz.prog cA Tryz.f225.ntmps (cS.go dT 0) (bf (au Tryz.f225) 100006) :=
  cw fe sR bz (L := cS) (k := 0) (f := dT) (C := gq) (l := []) (m := [(cT.go fA 0, bf (au Tryz.f225) 100008)]) (by kernel_rfl) trivial (by kernel_rfl) ⟨ag3, trivial⟩ (by kernel_rfl) (bd _ (by kernel_rfl)) ag0
theorem agz : lN Tryz.prog cA Tryz.f225.ntmps (cR.go iz 0) (bf (au Tryz.f225) 100004) :=
  cw fe sR bz (L := cR) (k := 0) (f := iz) (C := gq) (l := []) (m := [(cS.go dT 0, bf (au Tryz.f225) 100006)]) (by kernel_rfl) trivial (by kernel_rfl) ⟨ag1, trivial⟩ (by kernel_rfl) (bd _ (by kernel_rfl)) agy
theorem ag7 : lN Tryz.prog cA Tryz.f225.ntmps (cV.go fB 0) (bf (au Tryz.f225) 300003) :=
  cw fe sR bz (L := cV) (k := 0) (f := fB) (C := gq) (l := []) (m := [(cR.go iz 0, bf (au Tryz.f225) 100004)]) (by kernel_rfl) trivial (by kernel_rfl) ⟨agz, trivial⟩ (by kernel_rfl) (bd _ (by kernel_rfl)) ag6
theorem arL : EntOK Tryz.prog pC :=
  uF (C := gq) (F := cA) fe sR bz (fn := Tryz.f225) (l := []) (m := [(cV.go fB 0, bf (au Tryz.f225) 300003)]) Tryz.func225 (by kernel_rfl) (by kernel_rfl) (by kernel_rfl) trivial (by kernel_rfl) ⟨ag7, trivial⟩ (bd _ (by kernel_rfl)) (by kernel_rfl) arK
theorem arM : AX pC := (arL).x (by kernel_rfl)
def uU : Ent := ⟨191, Qn, ⟨[(0, .dat aF), (1, DI)], []⟩, lg⟩
theorem aa0 : AX uU := Af0 (l := [xz, pC]) Tryz.func191 ⟨aip, arM, trivial⟩
def agF : Ent := ⟨190, ⟨[(0, DI), (1, DI), (2, .ptr 0 .opq 0 []), (3, .ptr 1 aG 0 [])], [.box 242 .opq (.fn 189 [] []), .box 95 aG Qh]⟩, ⟨[], [.box 242 .opq (.fn 189 [] []), .box 95 aG Qh]⟩, uK⟩
def ao9 : Fx := AFl [zV, uA] [] 2
theorem aoO : AX agF := Afs (F := ao9) (fn := Tryz.f190) (m := []) (ai ⟨ahm, ab5, trivial⟩) Tryz.func190 trivial
def ai8 : Ent := ⟨226, Qn, Qr, agh⟩
theorem aq5 : AX ai8 := Af0 (l := [zW, uU]) Tryz.func226 ⟨ahq, aa0, trivial⟩
def agH : Ent := ⟨192, Qj, Qe, yD⟩
theorem aoQ : AX agH := Af0 (l := [ai8]) Tryz.func192 ⟨aq5, trivial⟩
def adc : Ent := ⟨223, Ru, QY, wR⟩
theorem alF : AX adc := Af0 (l := [uU]) Tryz.func223 ⟨aa0, trivial⟩
def aaW : Lp := Lp1 ⟨[(2, .ptr 0 bc 0 []), (3, .ptr 1 bc 0 []), (7, .dat (.list af)), (8, DI), (9, DI)], QR⟩ 0 ⟨[(2, .ptr 0 bc 0 []), (3, .ptr 1 bc 0 [])], QR⟩
def aef : Ent := ⟨188, QO, QY, zp⟩
def xH : Fx := AFl [adc] [(0, aaW.go yb 0)] 0
theorem aeH : aC Tryz.prog (xH).Γ := ai ⟨alF, trivial⟩
theorem alG : LA xH Tryz.f188 0 0 := Als (L := aaW) (b := pS) (m := []) aeH trivial
theorem amU : AX aef := Afs (F := xH) (fn := Tryz.f188) (m := lp Tryz.f188 [0]) aeH Tryz.func188 ⟨alG, trivial⟩
def agV : Lp := Lp1 ⟨[(1, .ptr 0 aw 0 []), (2, .ptr 1 aG 0 []), (3, .ptr 2 aG 0 []), (5, .ptr 3 .opq 0 []), (35, .dat (.list aG)), (36, DI), (37, DI)], Rj⟩ 0 ⟨[(1, .ptr 0 aw 0 []), (2, .ptr 1 aG 0 []), (3, .ptr 2 aG 0 []), (5, .ptr 3 .opq 0 [])], Rj⟩
def agW : Lp := Lp1 ⟨[(2, .ptr 0 aG 0 []), (3, .ptr 1 aG 0 []), (5, .ptr 2 .opq 0 []), (8, .fn 190 [] [(.ptr 2 .opq 0 []), (.ptr 1 aG 0 [])]), (62, .dat (.list aj)), (63, DI), (64, DI)], [.box 95 aG Qh, .box 95 aG Qh, .box 242 .opq (.fn 189 [] [])]⟩ 2 ⟨[(2, .ptr 0 aG 0 []), (3, .ptr 1 aG 0 [])], [.box 95 aG Qh, .box 95 aG Qh]⟩
def akV : Ent := ⟨149, ⟨[(0, .dat aw)], []⟩, Q7, yC⟩
def zj : Fx := AFl [zV, uA, uU, agF, agH, aef] [(0, agV.go aeY 0), (2, agW.go aeZ 0)] 0
theorem aeX : aC Tryz.prog (zj).Γ := ai ⟨ahm, ab5, aa0, aoO, aoQ, amU, trivial⟩
theorem aq3 : LA zj Tryz.f149 0 0 := Als (L := agV) (b := vE) (m := []) aeX trivial
theorem aq4 : LA zj Tryz.f149 2 1 := Als (L := agW) (b := nC) (m := []) aeX trivial
theorem arH : AX akV := Afs (F := zj) (fn := Tryz.f149) (m := lp Tryz.f149 [0, 2]) aeX Tryz.func149 ⟨aq3, aq4, trivial⟩
def kM : Lp := ⟨⟨[(3, DI), (4, .ptr 0 ak 0 []), (9, .ptr 1 aw 0 []), (11, DI), (39, .own ac 2), (40, DI), (41, DI)], [.box 32 ak (.dat ak), .box 85 aw (.dat aw), .arr 39 ac false]⟩, .ret, ⟨[(8, DI)], []⟩, (.exit 0), ⟨[(11, DI)], []⟩⟩
def xE : Ent := ⟨91, mQ, mS, vY⟩
def pI (tree_height_r : (ah × Int × aa × Int × Unit) -> Option (Int × Unit)) : Fx := AFl [n9, zU, lY, (qF tree_height_r), agG, akV] [(0, kM.go (nh tree_height_r) 0)] 0
theorem akb (tree_height_r : (ah × Int × aa × Int × Unit) -> Option (Int × Unit)) (s : kM.S.ty.den) : @Eq (Option (kM.S.ty.den ⊕ kM.Out)) (kM.body (pI tree_height_r) (fI (au Tryz.f91) 0) 0 s).val (fc tree_height_r s) := by kernel_rfl
theorem ao0 (tree_height_r : (ah × Int × aa × Int × Unit) -> Option (Int × Unit)) (s : mQ.ty.den) : @Eq (Option mS.ty.den) (ajd (pI tree_height_r) Tryz.f91 mQ mS s).val (bX tree_height_r s) := by kernel_rfl
theorem afQ (tree_height_r : (ah × Int × aa × Int × Unit) -> Option (Int × Unit)) (tree_height_r_ok : EntOK Tryz.prog (qF tree_height_r)) : aC Tryz.prog (pI tree_height_r).Γ := ai ⟨sS, ahl, qX, (tree_height_r_ok.x (by kernel_rfl)), aoP, arH, trivial⟩
theorem amm (tree_height_r : (ah × Int × aa × Int × Unit) -> Option (Int × Unit)) (tree_height_r_ok : EntOK Tryz.prog (qF tree_height_r)) : lc Tryz.prog (pI tree_height_r) Tryz.f91.ntmps 0 (fI (au Tryz.f91) 0) :=
  sQ fe (afQ tree_height_r tree_height_r_ok) bz (L := kM) (f := nh tree_height_r) (b := fc tree_height_r) (m := []) (fun _ => rfl) (by kernel_rfl) (by kernel_rfl) trivial (by kernel_rfl) (bd _ (by kernel_rfl)) (akb tree_height_r)
theorem agD (tree_height_r : (ah × Int × aa × Int × Unit) -> Option (Int × Unit)) (tree_height_r_ok : EntOK Tryz.prog (qF tree_height_r)) : EntOK Tryz.prog ⟨91, mQ, mS, bX tree_height_r⟩ :=
  sO (F := (pI tree_height_r)) fe (afQ tree_height_r tree_height_r_ok) bz (fn := Tryz.f91) (m := lp Tryz.f91 [0]) Tryz.func91 (by kernel_rfl) (by kernel_rfl) (by kernel_rfl) ⟨amm tree_height_r tree_height_r_ok, trivial⟩ (bd _ (by kernel_rfl)) (by kernel_rfl) (ao0 tree_height_r)
theorem wL : ∀ n, EntOK Tryz.prog ⟨91, mQ, mS, aW n⟩
  | 0 => ajc
  | n + 1 => agD _ (wL n)
theorem ao1 : EntOK Tryz.prog xE := wL aco
theorem ao2 : AX xE := (ao1).x (by kernel_rfl)
def rJ : Shape := Rv
def rL : Shape := Qe
def aae : Ent := ⟨31, rJ, rL, dL⟩
def aoB : Fx := AF0 [aaf, xE]
theorem ahQ : EntOK Tryz.prog aae := Afk (F := aoB) (fn := Tryz.f31) (m := []) (ai ⟨ahR, ao2, trivial⟩) Tryz.func31 trivial
theorem apw : AX aae := ahQ.x (by kernel_rfl)
def dG : Lp := ⟨⟨[(1, .ptr 0 aN 0 []), (2, .ptr 1 af 0 []), (3, DB), (4, DI), (7, DB), (8, DI), (10, .own af 2), (16, .ptr 3 aN 0 []), (18, DB)], [.box 36 aN (.dat aN), .box 58 af (.dat af), .arr 58 af false, .box 36 aN (.dat aN)]⟩, .ret, Qe, (.exit 90000009), ⟨[], []⟩⟩
def si : Shape := ⟨[], []⟩
def sj : Shape := Qe
def we : Ent := ⟨21, si, sj, acv⟩
def lT (x_tree_Get : (az × (List UInt8) × Unit) -> Option oA) (x_tree_New : (aP × Unit) -> Option (az × Int × Unit)) (x_tree_Add : (az × ag × Unit) -> Option (az × Int × Unit)) (x_tree_Height : (az × Unit) -> Option (Int × Unit)) (x_law12_small : Unit -> Option (az × Unit)) (x_tree_Scan : (az × aa × Unit) -> Option (Int × (List ae) × Unit)) (x_ref04_Same : ((List ae) × (List ae) × Unit) -> Option (Bool × Unit)) (x_tree_Valid : (az × Unit) -> Option (Bool × Unit)) : Fx := AF0 [⟨81, pL, pO, x_tree_Get⟩, ⟨40, vw, v6, x_tree_New⟩, ⟨15, vv, vz, x_tree_Add⟩, ⟨17, pM, pP, x_tree_Height⟩, ⟨80, pK, pN, x_law12_small⟩, ⟨27, nQ, nS, x_tree_Scan⟩, ⟨29, rI, rK, x_ref04_Same⟩, ⟨31, rJ, rL, x_tree_Valid⟩]
def sd (x_tree_Get : (az × (List UInt8) × Unit) -> Option oA) (x_tree_New : (aP × Unit) -> Option (az × Int × Unit)) (x_tree_Add : (az × ag × Unit) -> Option (az × Int × Unit)) (x_tree_Height : (az × Unit) -> Option (Int × Unit)) (x_law12_small : Unit -> Option (az × Unit)) (x_tree_Scan : (az × aa × Unit) -> Option (Int × (List ae) × Unit)) (x_ref04_Same : ((List ae) × (List ae) × Unit) -> Option (Bool × Unit)) (x_tree_Valid : (az × Unit) -> Option (Bool × Unit)) : aeC := [(9, dG.go (cN x_tree_Get x_tree_New x_tree_Add x_tree_Height x_law12_small x_tree_Scan x_ref04_Same x_tree_Valid) 0)]
theorem aig (x_tree_Get : (az × (List UInt8) × Unit) -> Option oA) (x_tree_New : (aP × Unit) -> Option (az × Int × Unit)) (x_tree_Add : (az × ag × Unit) -> Option (az × Int × Unit)) (x_tree_Height : (az × Unit) -> Option (Int × Unit)) (x_law12_small : Unit -> Option (az × Unit)) (x_tree_Scan : (az × aa × Unit) -> Option (Int × (List ae) × Unit)) (x_ref04_Same : ((List ae) × (List ae) × Unit) -> Option (Bool × Unit)) (x_tree_Valid : (az × Unit) -> Option (Bool × Unit)) (s : dG.S.ty.den) : @Eq (Option dG.Out) ((evK (lT x_tree_Get x_tree_New x_tree_Add x_tree_Height x_law12_small x_tree_Scan x_ref04_Same x_tree_Valid) (sd x_tree_Get x_tree_New x_tree_Add x_tree_Height x_law12_small x_tree_Scan x_ref04_Same x_tree_Valid) (bf (au Tryz.f21) 9) 0 (dG.S.enc s)).bind fun (e, st) => dG.out (lT x_tree_Get x_tree_New x_tree_Add x_tree_Height x_law12_small x_tree_Scan x_ref04_Same x_tree_Valid).m e st).val (cN x_tree_Get x_tree_New x_tree_Add x_tree_Height x_law12_small x_tree_Scan x_ref04_Same x_tree_Valid s) := by kernel_rfl
theorem alH (x_tree_Get : (az × (List UInt8) × Unit) -> Option oA) (x_tree_New : (aP × Unit) -> Option (az × Int × Unit)) (x_tree_Add : (az × ag × Unit) -> Option (az × Int × Unit)) (x_tree_Height : (az × Unit) -> Option (Int × Unit)) (x_law12_small : Unit -> Option (az × Unit)) (x_tree_Scan : (az × aa × Unit) -> Option (Int × (List ae) × Unit)) (x_ref04_Same : ((List ae) × (List ae) × Unit) -> Option (Bool × Unit)) (x_tree_Valid : (az × Unit) -> Option (Bool × Unit)) (s : si.ty.den) : @Eq (Option sj.ty.den) (aje (lT x_tree_Get x_tree_New x_tree_Add x_tree_Height x_law12_small x_tree_Scan x_ref04_Same x_tree_Valid) (sd x_tree_Get x_tree_New x_tree_Add x_tree_Height x_law12_small x_tree_Scan x_ref04_Same x_tree_Valid) Tryz.f21 si sj s).val (tI x_tree_Get x_tree_New x_tree_Add x_tree_Height x_law12_small x_tree_Scan x_ref04_Same x_tree_Valid s) := by kernel_rfl
theorem ad4 (x_tree_Get : (az × (List UInt8) × Unit) -> Option oA) (x_tree_Get_ok : EntOK Tryz.prog ⟨81, pL, pO, x_tree_Get⟩) (x_tree_New : (aP × Unit) -> Option (az × Int × Unit)) (x_tree_New_ok : EntOK Tryz.prog ⟨40, vw, v6, x_tree_New⟩) (x_tree_Add : (az × ag × Unit) -> Option (az × Int × Unit)) (x_tree_Add_ok : EntOK Tryz.prog ⟨15, vv, vz, x_tree_Add⟩) (x_tree_Height : (az × Unit) -> Option (Int × Unit)) (x_tree_Height_ok : EntOK Tryz.prog ⟨17, pM, pP, x_tree_Height⟩) (x_law12_small : Unit -> Option (az × Unit)) (x_law12_small_ok : EntOK Tryz.prog ⟨80, pK, pN, x_law12_small⟩) (x_tree_Scan : (az × aa × Unit) -> Option (Int × (List ae) × Unit)) (x_tree_Scan_ok : EntOK Tryz.prog ⟨27, nQ, nS, x_tree_Scan⟩) (x_ref04_Same : ((List ae) × (List ae) × Unit) -> Option (Bool × Unit)) (x_ref04_Same_ok : EntOK Tryz.prog ⟨29, rI, rK, x_ref04_Same⟩) (x_tree_Valid : (az × Unit) -> Option (Bool × Unit)) (x_tree_Valid_ok : EntOK Tryz.prog ⟨31, rJ, rL, x_tree_Valid⟩) : aC Tryz.prog (lT x_tree_Get x_tree_New x_tree_Add x_tree_Height x_law12_small x_tree_Scan x_ref04_Same x_tree_Valid).Γ := ai ⟨(x_tree_Get_ok.x (by kernel_rfl)), (x_tree_New_ok.x (by kernel_rfl)), (x_tree_Add_ok.x (by kernel_rfl)), (x_tree_Height_ok.x (by kernel_rfl)), (x_law12_small_ok.x (by kernel_rfl)), (x_tree_Scan_ok.x (by kernel_rfl)), (x_ref04_Same_ok.x (by kernel_rfl)), (x_tree_Valid_ok.x (by kernel_rfl)), trivial⟩
theorem aih (x_tree_Get : (az × (List UInt8) × Unit) -> Option oA) (x_tree_Get_ok : EntOK Tryz.prog ⟨81, pL, pO, x_tree_Get⟩) (x_tree_New : (aP × Unit) -> Option (az × Int × Unit)) (x_tree_New_ok : EntOK Tryz.prog ⟨40, vw, v6, x_tree_New⟩) (x_tree_Add : (az × ag × Unit) -> Option (az × Int × Unit)) (x_tree_Add_ok : EntOK Tryz.prog ⟨15, vv, vz, x_tree_Add⟩) (x_tree_Height : (az × Unit) -> Option (Int × Unit)) (x_tree_Height_ok : EntOK Tryz.prog ⟨17, pM, pP, x_tree_Height⟩) (x_law12_small : Unit -> Option (az × Unit)) (x_law12_small_ok : EntOK Tryz.prog ⟨80, pK, pN, x_law12_small⟩) (x_tree_Scan : (az × aa × Unit) -> Option (Int × (List ae) × Unit)) (x_tree_Scan_ok : EntOK Tryz.prog ⟨27, nQ, nS, x_tree_Scan⟩) (x_ref04_Same : ((List ae) × (List ae) × Unit) -> Option (Bool × Unit)) (x_ref04_Same_ok : EntOK Tryz.prog ⟨29, rI, rK, x_ref04_Same⟩) (x_tree_Valid : (az × Unit) -> Option (Bool × Unit)) (x_tree_Valid_ok : EntOK Tryz.prog ⟨31, rJ, rL, x_tree_Valid⟩) : lN Tryz.prog (lT x_tree_Get x_tree_New x_tree_Add x_tree_Height x_law12_small x_tree_Scan x_ref04_Same x_tree_Valid) Tryz.f21.ntmps (dG.go (cN x_tree_Get x_tree_New x_tree_Add x_tree_Height x_law12_small x_tree_Scan x_ref04_Same x_tree_Valid) 0) (bf (au Tryz.f21) 9) :=
  cw fe (ad4 x_tree_Get x_tree_Get_ok x_tree_New x_tree_New_ok x_tree_Add x_tree_Add_ok x_tree_Height x_tree_Height_ok x_law12_small x_law12_small_ok x_tree_Scan x_tree_Scan_ok x_ref04_Same x_ref04_Same_ok x_tree_Valid x_tree_Valid_ok) bz (L := dG) (k := 0) (f := cN x_tree_Get x_tree_New x_tree_Add x_tree_Height x_law12_small x_tree_Scan x_ref04_Same x_tree_Valid) (C := (sd x_tree_Get x_tree_New x_tree_Add x_tree_Height x_law12_small x_tree_Scan x_ref04_Same x_tree_Valid)) (l := []) (m := []) (by kernel_rfl) trivial (by kernel_rfl) trivial (by kernel_rfl) (bd _ (by kernel_rfl)) (aig x_tree_Get x_tree_New x_tree_Add x_tree_Height x_law12_small x_tree_Scan x_ref04_Same x_tree_Valid)
theorem aeQ (x_tree_Get : (az × (List UInt8) × Unit) -> Option oA) (x_tree_Get_ok : EntOK Tryz.prog ⟨81, pL, pO, x_tree_Get⟩) (x_tree_New : (aP × Unit) -> Option (az × Int × Unit)) (x_tree_New_ok : EntOK Tryz.prog ⟨40, vw, v6, x_tree_New⟩) (x_tree_Add : (az × ag × Unit) -> Option (az × Int × Unit)) (x_tree_Add_ok : EntOK Tryz.prog ⟨15, vv, vz, x_tree_Add⟩) (x_tree_Height : (az × Unit) -> Option (Int × Unit)) (x_tree_Height_ok : EntOK Tryz.prog ⟨17, pM, pP, x_tree_Height⟩) (x_law12_small : Unit -> Option (az × Unit)) (x_law12_small_ok : EntOK Tryz.prog ⟨80, pK, pN, x_law12_small⟩) (x_tree_Scan : (az × aa × Unit) -> Option (Int × (List ae) × Unit)) (x_tree_Scan_ok : EntOK Tryz.prog ⟨27, nQ, nS, x_tree_Scan⟩) (x_ref04_Same : ((List ae) × (List ae) × Unit) -> Option (Bool × Unit)) (x_ref04_Same_ok : EntOK Tryz.prog ⟨29, rI, rK, x_ref04_Same⟩) (x_tree_Valid : (az × Unit) -> Option (Bool × Unit)) (x_tree_Valid_ok : EntOK Tryz.prog ⟨31, rJ, rL, x_tree_Valid⟩) : EntOK Tryz.prog ⟨21, si, sj, tI x_tree_Get x_tree_New x_tree_Add x_tree_Height x_law12_small x_tree_Scan x_ref04_Same x_tree_Valid⟩ :=
  uF (C := (sd x_tree_Get x_tree_New x_tree_Add x_tree_Height x_law12_small x_tree_Scan x_ref04_Same x_tree_Valid)) (F := (lT x_tree_Get x_tree_New x_tree_Add x_tree_Height x_law12_small x_tree_Scan x_ref04_Same x_tree_Valid)) fe (ad4 x_tree_Get x_tree_Get_ok x_tree_New x_tree_New_ok x_tree_Add x_tree_Add_ok x_tree_Height x_tree_Height_ok x_law12_small x_law12_small_ok x_tree_Scan x_tree_Scan_ok x_ref04_Same x_ref04_Same_ok x_tree_Valid x_tree_Valid_ok) bz (fn := Tryz.f21) (l := []) (m := [(dG.go (cN x_tree_Get x_tree_New x_tree_Add x_tree_Height x_law12_small x_tree_Scan x_ref04_Same x_tree_Valid) 0, bf (au Tryz.f21) 9)]) Tryz.func21 (by kernel_rfl) (by kernel_rfl) (by kernel_rfl) trivial (by kernel_rfl) ⟨aih x_tree_Get x_tree_Get_ok x_tree_New x_tree_New_ok x_tree_Add x_tree_Add_ok x_tree_Height x_tree_Height_ok x_law12_small x_law12_small_ok x_tree_Scan x_tree_Scan_ok x_ref04_Same x_ref04_Same_ok x_tree_Valid x_tree_Valid_ok, trivial⟩ (bd _ (by kernel_rfl)) (by kernel_rfl) (alH x_tree_Get x_tree_New x_tree_Add x_tree_Height x_law12_small x_tree_Scan x_ref04_Same x_tree_Valid)
theorem alI : EntOK Tryz.prog we := aeQ ajZ ase qt al8 aox asc nH afP aeR anj xv aka aix aoZ dL ahQ
theorem alJ : AX we := (alI).x (by kernel_rfl)
end D
open Go Go.X Go.Proofs D
namespace D
end D
open Go Go.X Go.Proofs D
namespace D
def bH : Lp := ⟨⟨[(2, .dat (.int .u8)), (4, .ptr 0 aY 0 []), (7, DB), (8, .ptr 1 ft 0 []), (9, .ptr 2 aN 0 []), (11, DB), (72, DB)], QG⟩, .nrm, ⟨Rc, QG⟩, .ret, Q3⟩
def bJ : Lp := ⟨⟨[(2, .dat (.int .u8)), (7, DB), (14, .ptr 0 aN 0 []), (112, DB)], [.box 36 aN (.dat aN)]⟩, .nrm, Rh, .ret, Q3⟩
def cg : Lp := ⟨⟨[(7, DB), (14, .ptr 0 aN 0 []), (15, .ptr 1 aN 0 []), (16, .ptr 2 aw 0 [])], [.box 36 aN (.dat aN), .box 36 aN (.agg [(.agg [(.own aK 3)]), DI, (.dat ft)]), .box 85 aw (.agg [(.dat (.list af)), (.dat (.list .str)), (.dat (.list (.int .i64))), (.dat (.list aG)), (.dat (.list aj))]), .arr 87 aK false]⟩, .ret, Q3, (.exit 90000026), ⟨[], []⟩⟩
def cf : Lp := ⟨Rh, .ret, Q3, (.exit 90000014), ⟨[], []⟩⟩
def ce : Lp := ⟨Ri, .ret, Q3, (.exit 90000011), ⟨[], []⟩⟩
def bI : Lp := ⟨⟨[(2, .dat (.int .u8)), (4, .ptr 0 aY 0 []), (7, DB), (102, DB)], [.box 26 aY (.dat aY)]⟩, .nrm, Ri, .ret, Q3⟩
def co : Lp := ⟨⟨Rc, QG⟩, .ret, Q3, (.exit 90000007), ⟨[], []⟩⟩
def cn : Lp := ⟨⟨[(2, .dat (.int .u8)), (4, .ptr 0 aY 0 []), (7, DB), (8, .ptr 1 ft 0 []), (9, .ptr 2 aN 0 []), (10, DI), (11, DB)], QG⟩, .ret, Q3, (.exit 90000005), ⟨[], []⟩⟩
def eo : Ent := ⟨9, ⟨[(0, .dat Rr), (1, .dat aY), (2, .dat (.int .u8))], []⟩, Qe, kO⟩
def aD : Fx := AF0 [ae0, agR, xD, abT, aae, we]
def aS : aeC := [(100006, bH.go bx 0), (100013, bJ.go bK 0), (26, cg.go ct 0), (14, cf.go cr 0), (11, ce.go bp 0), (100010, bI.go bj 0), (7, co.go cj 0), (5, cn.go bo 0)]
theorem wU (s : bH.S.ty.den) : @Eq (Option bH.Out) ((evK aD aS (bf (au Tryz.f9) 100006) 0 (bH.S.enc s)).bind fun (e, st) => bH.out (aD).m e st).val (bx s) := by kernel_rfl
theorem wY (s : bJ.S.ty.den) : @Eq (Option bJ.Out) ((evK aD aS (bf (au Tryz.f9) 100013) 0 (bJ.S.enc s)).bind fun (e, st) => bJ.out (aD).m e st).val (bK s) := by kernel_rfl
theorem abr (s : cg.S.ty.den) : @Eq (Option cg.Out) ((evK aD aS (bf (au Tryz.f9) 26) 0 (cg.S.enc s)).bind fun (e, st) => cg.out (aD).m e st).val (ct s) := by kernel_rfl
theorem abp (s : cf.S.ty.den) : @Eq (Option cf.Out) ((evK aD aS (bf (au Tryz.f9) 14) 0 (cf.S.enc s)).bind fun (e, st) => cf.out (aD).m e st).val (cr s) := by kernel_rfl
theorem abn (s : ce.S.ty.den) : @Eq (Option ce.Out) ((evK aD aS (bf (au Tryz.f9) 11) 0 (ce.S.enc s)).bind fun (e, st) => ce.out (aD).m e st).val (bp s) := by kernel_rfl
theorem wW (s : bI.S.ty.den) : @Eq (Option bI.Out) ((evK aD aS (bf (au Tryz.f9) 100010) 0 (bI.S.enc s)).bind fun (e, st) => bI.out (aD).m e st).val (bj s) := by kernel_rfl
theorem acs (s : co.S.ty.den) : @Eq (Option co.Out) ((evK aD aS (bf (au Tryz.f9) 7) 0 (co.S.enc s)).bind fun (e, st) => co.out (aD).m e st).val (cj s) := by kernel_rfl
theorem acq (s : cn.S.ty.den) : @Eq (Option cn.Out) ((evK aD aS (bf (au Tryz.f9) 5) 0 (cn.S.enc s)).bind fun (e, st) => cn.out (aD).m e st).val (bo s) := by kernel_rfl
theorem agv (s : (eo).S.ty.den) : (aje aD aS Tryz.f9 (eo).S (eo).Z s).val = (eo).g s := by kernel_rfl
theorem cC : aC Tryz.prog (aD).Γ := ai ⟨asf, apl, aoz, aqW, apw, alJ, trivial⟩
theorem wV : lN Tryz.prog aD Tryz.f9.ntmps (bH.go bx 0) (bf (au Tryz.f9) 100006) :=
  cw fe cC bz (L := bH) (k := 0) (f := bx) (C := aS) (l := []) (m := []) (by kernel_rfl) trivial (by kernel_rfl) trivial (by kernel_rfl) (bd _ (by kernel_rfl)) wU
theorem wZ : lN Tryz.prog aD Tryz.f9.ntmps (bJ.go bK 0) (bf (au Tryz.f9) 100013) :=
  cw fe cC bz (L := bJ) (k := 0) (f := bK) (C := aS) (l := []) (m := []) (by kernel_rfl) trivial (by kernel_rfl) trivial (by kernel_rfl) (bd _ (by kernel_rfl)) wY
theorem abs : lN Tryz.prog aD Tryz.f9.ntmps (cg.go ct 0) (bf (au Tryz.f9) 26) :=
  cw fe cC bz (L := cg) (k := 0) (f := ct) (C := aS) (l := []) (m := []) (by kernel_rfl) trivial (by kernel_rfl) trivial (by kernel_rfl) (bd _ (by kernel_rfl)) abr
theorem abq : lN Tryz.prog aD Tryz.f9.ntmps (cf.go cr 0) (bf (au Tryz.f9) 14) :=
  cw fe cC bz (L := cf) (k := 0) (f := cr) (C := aS) (l := []) (m := [(cg.go ct 0, bf (au Tryz.f9) 26)]) (by kernel_rfl) trivial (by kernel_rfl) ⟨abs, trivial⟩ (by kernel_rfl) (bd _ (by kernel_rfl)) abp
theorem abo : lN Tryz.prog aD Tryz.f9.ntmps (ce.go bp 0) (bf (au Tryz.f9) 11) :=
  cw fe cC bz (L := ce) (k := 0) (f := bp) (C := aS) (l := []) (m := [(bJ.go bK 0, bf (au Tryz.f9) 100013), (cf.go cr 0, bf (au Tryz.f9) 14)]) (by kernel_rfl) trivial (by kernel_rfl) ⟨wZ, abq, trivial⟩ (by kernel_rfl) (bd _ (by kernel_rfl)) abn
theorem wX : lN Tryz.prog aD Tryz.f9.ntmps (bI.go bj 0) (bf (au Tryz.f9) 100010) :=
  cw fe cC bz (L := bI) (k := 0) (f := bj) (C := aS) (l := []) (m := []) (by kernel_rfl) trivial (by kernel_rfl) trivial (by kernel_rfl) (bd _ (by kernel_rfl)) wW
theorem acu : lN Tryz.prog aD Tryz.f9.ntmps (co.go cj 0) (bf (au Tryz.f9) 7) :=
  cw fe cC bz (L := co) (k := 0) (f := cj) (C := aS) (l := []) (m := [(bI.go bj 0, bf (au Tryz.f9) 100010), (ce.go bp 0, bf (au Tryz.f9) 11)]) (by kernel_rfl) trivial (by kernel_rfl) ⟨wX, abo, trivial⟩ (by kernel_rfl) (bd _ (by kernel_rfl)) acs
theorem acr : lN Tryz.prog aD Tryz.f9.ntmps (cn.go bo 0) (bf (au Tryz.f9) 5) :=
  cw fe cC bz (L := cn) (k := 0) (f := bo) (C := aS) (l := []) (m := [(bH.go bx 0, bf (au Tryz.f9) 100006), (co.go cj 0, bf (au Tryz.f9) 7)]) (by kernel_rfl) trivial (by kernel_rfl) ⟨wV, acu, trivial⟩ (by kernel_rfl) (bd _ (by kernel_rfl)) acq
theorem agw : EntOK Tryz.prog eo :=
  uF (C := aS) (F := aD) fe cC bz (fn := Tryz.f9) (l := []) (m := [(cn.go bo 0, bf (au Tryz.f9) 5)]) Tryz.func9 (by kernel_rfl) (by kernel_rfl) (by kernel_rfl) trivial (by kernel_rfl) ⟨acr, trivial⟩ (bd _ (by kernel_rfl)) (by kernel_rfl) agv
end D
