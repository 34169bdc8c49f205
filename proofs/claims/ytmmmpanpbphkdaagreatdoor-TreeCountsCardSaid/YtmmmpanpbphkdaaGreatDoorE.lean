/- Entries, by program. -/
import Derived.Test.YtmmmpanpbphkdaaGreatDoorL
import Derived.Test.YtmmmpanpbphkdaaGreatDoorD
import Derived.Test.YtmmmpanpbphkdaaGreatDoorChecked
set_option linter.unusedVariables false
set_option maxRecDepth 100000
open Go Go.X Go.Proofs D
namespace D
abbrev DB : SK := .dat .bool
abbrev DS : SK := .dat .str
abbrev DI : SK := .dat (.int .i64)
def Acx : Cx := ⟨[(1, ⟨.opq, 0, [], 8, false, true, false, []⟩), (3, ⟨(.int .i64), 0, [], 8, false, false, false, []⟩), (4, ⟨.bool, 0, [], 1, false, false, false, []⟩), (5, ⟨(.int .u8), 0, [], 1, false, false, false, []⟩), (9, ⟨.str, 0, [], 16, false, false, false, []⟩), (20, ⟨.opq, 0, [], 16, false, false, true, []⟩), (21, ⟨(.int .i32), 0, [], 4, false, false, false, []⟩), (22, ⟨(.list (.pair (.int .u8) (.pair (.int .u8) (.pair (.int .u8) .unit)))), 168, [], 3, false, false, false, []⟩), (23, ⟨(.list (.pair (.int .u8) (.pair (.int .u8) (.pair (.int .u8) (.pair (.int .u8) (.pair (.int .u8) (.pair (.int .u8) .unit))))))), 28, [], 6, false, false, false, []⟩), (24, ⟨(.pair (.list (.pair (.int .u8) (.pair (.int .u8) (.pair (.int .u8) (.pair (.int .u8) (.pair (.int .u8) (.pair (.int .u8) .unit))))))) (.pair (.list (.pair (.int .u8) (.pair (.int .u8) (.pair (.int .u8) (.pair (.int .u8) (.pair (.int .u8) (.pair (.int .u8) .unit))))))) (.pair (.list (.pair (.int .u8) (.pair (.int .u8) (.pair (.int .u8) (.pair (.int .u8) (.pair (.int .u8) (.pair (.int .u8) .unit))))))) (.pair (.list (.pair (.int .u8) (.pair (.int .u8) (.pair (.int .u8) (.pair (.int .u8) (.pair (.int .u8) (.pair (.int .u8) .unit))))))) .unit)))), 0, [23, 23, 23, 23], 96, false, true, false, []⟩), (26, ⟨dt, 0, [22, 24, 5], 128, false, false, false, []⟩), (28, ⟨(.pair (.int .u8) (.pair (.int .u8) (.pair (.int .u8) (.pair (.int .u8) (.pair (.int .u8) (.pair (.int .u8) .unit)))))), 0, [5, 5, 5, 5, 5, 5], 6, false, true, false, []⟩), (30, ⟨(.list aN), 87, [], 136, false, false, false, []⟩), (32, ⟨aq, 0, [30], 24, false, false, false, []⟩), (34, ⟨ad0, 0, [3, 3, 3], 24, true, false, false, []⟩), (36, ⟨bo, 0, [32, 3, 34], 56, false, false, false, []⟩), (39, ⟨ac, 0, [9, 9], 32, true, false, false, []⟩), (41, ⟨am, 0, [3, 9, 9, 39, 9, 9, 3], 112, true, false, false, []⟩), (43, ⟨(.int .i64), 0, [], 8, false, false, false, []⟩), (55, ⟨(.list .str), 9, [], 16, false, false, false, []⟩), (58, ⟨af, 0, [9, 9, 3], 40, true, false, false, []⟩), (60, ⟨auz, 0, [58, 4, 3, 43], 64, true, false, false, []⟩), (62, ⟨(.list ac), 39, [], 32, false, false, false, []⟩), (64, ⟨(.list af), 58, [], 40, false, false, false, []⟩), (81, ⟨(.list (.int .i64)), 3, [], 8, false, false, false, []⟩), (82, ⟨(.list aH), 95, [], 32, false, false, false, []⟩), (83, ⟨(.list am), 41, [], 112, false, false, false, []⟩), (85, ⟨a8, 0, [64, 55, 81, 82, 83], 120, false, false, false, []⟩), (87, ⟨aN, 0, [4, 4, 3, 85], 136, false, false, false, []⟩), (93, ⟨aY, 0, [3, 3], 16, true, false, false, []⟩), (95, ⟨aH, 0, [93, 93], 32, true, false, false, []⟩), (100, ⟨.opq, 0, [], 8, false, true, false, []⟩), (111, ⟨(.list (.list .str)), 55, [], 24, false, false, false, []⟩), (112, ⟨(.list (.list (.list .str))), 111, [], 24, false, false, false, []⟩), (114, ⟨aB, 0, [32, 3], 32, false, false, false, []⟩), (132, ⟨.opq, 0, [], 8, false, true, false, []⟩), (141, ⟨.opq, 0, [], 8, false, false, false, []⟩), (143, ⟨aB, 0, [32, 43], 32, false, false, false, []⟩), (144, ⟨.opq, 0, [], 8, false, true, false, []⟩), (145, ⟨.opq, 0, [], 8, false, true, false, []⟩), (149, ⟨bv, 0, [32, 3, 43], 40, false, false, false, []⟩), (159, ⟨.opq, 0, [], 8, false, true, false, []⟩), (160, ⟨.opq, 0, [], 8, false, true, false, []⟩), (168, ⟨(.pair (.int .u8) (.pair (.int .u8) (.pair (.int .u8) .unit))), 0, [5, 5, 5], 3, false, true, false, []⟩), (169, ⟨(.list (.int .u8)), 5, [], 1, false, false, false, []⟩), (171, ⟨.opq, 0, [], 16, false, false, true, []⟩), (176, ⟨.opq, 0, [], 8, false, false, false, []⟩), (183, ⟨.str, 0, [], 16, false, false, false, []⟩), (190, ⟨aD, 0, [4, 4, 58, 9, 4, 3], 80, true, false, false, []⟩), (195, ⟨.opq, 0, [], 8, false, true, false, []⟩), (204, ⟨aY, 0, [3, 3], 16, true, false, false, []⟩), (210, ⟨am, 0, [3, 9, 9, 39, 9, 9, 3], 112, true, false, false, [("downspout/msg.apply", 319), ("downspout/msg.bare", 320), ("downspout/msg.reads", 321), ("downspout/msg.valid", 322), ("downspout/msg.writes", 324)]⟩), (211, ⟨am, 0, [3, 9, 9, 39, 9, 9, 3], 112, true, false, false, [("downspout/msg.apply", 332), ("downspout/msg.bare", 333), ("downspout/msg.reads", 334), ("downspout/msg.valid", 335), ("downspout/msg.writes", 337)]⟩), (212, ⟨am, 0, [3, 9, 9, 39, 9, 9, 3], 112, true, false, false, [("downspout/msg.apply", 343), ("downspout/msg.bare", 344), ("downspout/msg.reads", 345), ("downspout/msg.valid", 346), ("downspout/msg.writes", 348)]⟩), (213, ⟨am, 0, [3, 9, 9, 39, 9, 9, 3], 112, true, false, false, [("downspout/msg.apply", 350), ("downspout/msg.bare", 351), ("downspout/msg.reads", 352), ("downspout/msg.valid", 353), ("downspout/msg.writes", 355)]⟩), (214, ⟨am, 0, [3, 9, 9, 39, 9, 9, 3], 112, true, false, false, [("downspout/msg.apply", 356), ("downspout/msg.bare", 361), ("downspout/msg.reads", 362), ("downspout/msg.valid", 363), ("downspout/msg.writes", 365)]⟩), (215, ⟨am, 0, [3, 9, 9, 39, 9, 9, 3], 112, true, false, false, [("downspout/msg.apply", 366), ("downspout/msg.bare", 367), ("downspout/msg.reads", 368), ("downspout/msg.valid", 369), ("downspout/msg.writes", 371)]⟩), (216, ⟨(.list .str), 183, [], 16, false, false, false, []⟩), (218, ⟨.opq, 0, [], 8, false, true, false, []⟩), (223, ⟨.opq, 0, [], 8, false, true, false, []⟩), (224, ⟨.opq, 0, [], 8, false, true, false, []⟩), (226, ⟨.opq, 0, [], 8, false, true, false, []⟩), (227, ⟨(.pair .opq (.pair .opq (.pair .opq (.pair .opq (.pair .opq (.pair .opq (.pair .opq .unit))))))), 0, [226, 226, 226, 226, 226, 226, 226], 56, false, true, false, []⟩), (228, ⟨.opq, 0, [], 8, false, false, false, []⟩), (241, ⟨.opq, 0, [], 8, false, false, false, []⟩), (242, ⟨.opq, 0, [], 8, false, true, false, []⟩), (243, ⟨.opq, 0, [], 8, false, true, false, []⟩), (245, ⟨aE, 0, [9, 3, 3, 9], 48, true, false, false, []⟩), (255, ⟨.opq, 0, [], 8, false, true, false, []⟩), (256, ⟨.opq, 0, [], 8, false, true, false, []⟩), (257, ⟨(.int .u64), 0, [], 8, false, false, false, []⟩), (260, ⟨.opq, 0, [], 8, false, true, false, []⟩), (264, ⟨(.list aY), 93, [], 16, false, false, false, []⟩), (265, ⟨.opq, 0, [], 8, false, false, false, []⟩), (267, ⟨(.pair .str .unit), 0, [9], 16, true, false, false, []⟩), (269, ⟨pJ, 0, [267, 245], 64, true, false, false, []⟩), (276, ⟨.opq, 0, [], 8, false, true, false, []⟩), (286, ⟨.opq, 0, [], 8, false, false, false, []⟩), (291, ⟨.opq, 0, [], 8, false, true, false, []⟩), (294, ⟨(.int .i64), 0, [], 8, false, false, false, []⟩), (301, ⟨(.int .u32), 0, [], 4, false, false, false, []⟩), (303, ⟨(.int .u64), 0, [], 8, false, false, false, []⟩), (313, ⟨.opq, 0, [], 8, false, false, false, []⟩), (315, ⟨(.int .u64), 0, [], 8, false, false, false, []⟩), (319, ⟨.opq, 0, [], 8, false, false, false, []⟩), (326, ⟨.opq, 0, [], 8, false, false, false, []⟩), (333, ⟨(.pair (.int .u8) (.pair (.int .u8) .unit)), 0, [5, 5], 2, true, false, false, []⟩), (334, ⟨(.pair (.pair (.int .u8) (.pair (.int .u8) .unit)) (.pair (.pair (.int .u8) (.pair (.int .u8) .unit)) (.pair (.pair (.int .u8) (.pair (.int .u8) .unit)) (.pair (.pair (.int .u8) (.pair (.int .u8) .unit)) (.pair (.pair (.int .u8) (.pair (.int .u8) .unit)) (.pair (.pair (.int .u8) (.pair (.int .u8) .unit)) (.pair (.pair (.int .u8) (.pair (.int .u8) .unit)) (.pair (.pair (.int .u8) (.pair (.int .u8) .unit)) (.pair (.pair (.int .u8) (.pair (.int .u8) .unit)) (.pair (.pair (.int .u8) (.pair (.int .u8) .unit)) (.pair (.pair (.int .u8) (.pair (.int .u8) .unit)) (.pair (.pair (.int .u8) (.pair (.int .u8) .unit)) (.pair (.pair (.int .u8) (.pair (.int .u8) .unit)) (.pair (.pair (.int .u8) (.pair (.int .u8) .unit)) (.pair (.pair (.int .u8) (.pair (.int .u8) .unit)) (.pair (.pair (.int .u8) (.pair (.int .u8) .unit)) .unit)))))))))))))))), 0, [333, 333, 333, 333, 333, 333, 333, 333, 333, 333, 333, 333, 333, 333, 333, 333], 32, false, true, false, []⟩), (357, ⟨(.list (.list af)), 64, [], 24, false, false, false, []⟩)], a3W [(296, 0), (287, 0), (286, 0), (235, 0), (263, 0), (251, 0), (330, 0), (71, 0), (181, 0), (219, 0), (329, 0), (116, 0), (283, 0), (267, 0), (266, 0), (265, 0), (264, 0), (262, 0), (261, 0), (260, 0), (331, 0), (233, 0), (342, 0), (327, 0), (170, 0), (328, 0), (328, 1), (327, 0), (327, 2), (118, 0)]⟩
noncomputable instance a4N : Env := ⟨fun Y => bif Nat.beq Y 1002700 then some (acY Tryz.f27 0) else bif Nat.beq Y 1013600 then some (acY Tryz.f136 0) else bif Nat.beq Y 1016800 then some (acY Tryz.f168 0) else bif Nat.beq Y 1012800 then some (acY Tryz.f128 0) else none, fun g => bif Nat.beq g 0 then [none, some 374, some 376, some 377, some 378, some 379, some 380] else []⟩
theorem gZ : bg Tryz.prog Acx := a1v (by kernel_rfl)
theorem bC : Tryz.prog.follows .mixedOrders = true := by kernel_rfl
def AF0 (l : List Ent) : Fx := bj Acx (av l) (fun k st => .fail) 0
abbrev AX (E : Ent) : Prop := az9 Tryz.prog E
theorem Afk {F : Fx} {f : Nat} {S Z : Shape} {g : S.ty.den -> Option Z.ty.den} {fn : Func} {m : List (Nat × Code)} (hG : aC Tryz.prog F.Γ) (hf : Tryz.prog.funcs[f]? = some fn) (hin : wX Tryz.prog F fn.ntmps m) (hc : F.cx = Acx := by kernel_rfl) (hb : fn.body = some (ah fn) := by kernel_rfl) (hok : aqq fn S Z = true := by kernel_rfl) (hm2 : bc (ah fn) 0 = m := by kernel_rfl) (hrf : hasRf (ah fn) = false := by kernel_rfl) (hmF : F.m = S.objs.length := by kernel_rfl) (hg : ∀ s, (aoc F fn S Z s).val = g s := by intro s; kernel_rfl) : EntOK Tryz.prog ⟨f, S, Z, g⟩ :=
  sR (F := F) (hc ▸ gZ) hG bC hf hb hok hm2 hin (bl _ hrf) hmF hg
theorem Afs {F : Fx} {f : Nat} {S Z : Shape} {g : S.ty.den -> Option Z.ty.den} {fn : Func} {m : List (Nat × Code)} (hG : aC Tryz.prog F.Γ) (hf : Tryz.prog.funcs[f]? = some fn) (hin : wX Tryz.prog F fn.ntmps m) (hc : F.cx = Acx := by kernel_rfl) (hb : fn.body = some (ah fn) := by kernel_rfl) (hok : aqq fn S Z = true := by kernel_rfl) (hm2 : bc (ah fn) 0 = m := by kernel_rfl) (hrf : hasRf (ah fn) = false := by kernel_rfl) (hmF : F.m = S.objs.length := by kernel_rfl) (hx : qE f = false := by kernel_rfl) (hg : ∀ s, (aoc F fn S Z s).val = g s := by intro s; kernel_rfl) : az9 Tryz.prog ⟨f, S, Z, g⟩ :=
  (Afk hG hf hin hc hb hok hm2 hrf hmF hg).x hx
theorem Als {F : Fx} {nt : Nat} {L : Lp} {c : Code} {k : Nat} {b : L.S.ty.den -> Option (L.S.ty.den ⊕ L.Out)} {m : List (Nat × Code)} (hG : aC Tryz.prog F.Γ) (hin : wX Tryz.prog F nt m) (hc : F.cx = Acx := by kernel_rfl) (hΛ : F.Λ k = L.go (fun s => aP b s) F.m := by kernel_rfl) (hm2 : bc c k = m := by kernel_rfl) (hc2 : dZ nt c = true := by kernel_rfl) (hrf : hasRf c = false := by kernel_rfl) (hb : ∀ s, (L.body F c k s).val = b s := by intro s; kernel_rfl) : aJ Tryz.prog F nt k c :=
  sT (F := F) (f := fun s => aP b s) (hc ▸ gZ) hG bC (fun _ => rfl) hΛ hm2 hin hc2 (bl _ hrf) hb
def avq : Shape := ⟨[(0, .dat aq), (1, DI)], []⟩
def avP : Shape := ⟨[(0, DB)], []⟩
def vH : Ent := ⟨118, avq, avP, v7⟩
def auI : Fx := AF0 []
theorem aaV : AX vH := Afs (F := auI) (fn := Tryz.f118) (m := []) (ag trivial) Tryz.func118 trivial
def apP : Shape := ⟨[(0, .dat aq)], []⟩
def aqi : Shape := ⟨[(0, .agg [(.own aN 0)])], [.arr 87 aN false]⟩
def wP : Ent := ⟨146, apP, aqi, u9⟩
def ap7 : Fx := AF0 []
theorem aeu : AX wP := Afs (F := ap7) (fn := Tryz.f146) (m := []) (ag trivial) Tryz.func146 trivial
def af0 : Lp := ⟨⟨[(2, .ptr 0 aq 0 []), (3, .ptr 1 a8 0 []), (4, .ptr 2 bv 0 []), (5, DI)], [.box 32 aq (.dat aq), .box 85 a8 (.dat a8), .box 149 bv (.agg [(.agg [(.dat (.list aN))]), DI, DI])]⟩, .ret, ⟨[(4, .ptr 0 bv 0 [])], [.box 149 bv (.agg [(.dat aq), DI, DI])]⟩, (.exit 0), ⟨[(2, .ptr 0 aq 0 []), (3, .ptr 1 a8 0 []), (4, .ptr 2 bv 0 [])], [.box 32 aq (.dat aq), .box 85 a8 (.dat a8), .box 149 bv (.agg [(.agg [(.dat (.list aN))]), DI, DI])]⟩⟩
def af1 : Lp := ⟨⟨[(2, .ptr 0 aq 0 []), (3, .ptr 1 a8 0 []), (4, .ptr 2 bv 0 []), (6, DI)], [.box 32 aq (.dat aq), .box 85 a8 (.dat a8), .box 149 bv (.agg [(.agg [(.dat (.list aN))]), DI, DI])]⟩, (.exit 2), ⟨[(2, .ptr 0 aq 0 []), (3, .ptr 1 a8 0 []), (4, .ptr 2 bv 0 []), (6, DI)], [.box 32 aq (.dat aq), .box 85 a8 (.dat a8), .box 149 bv (.agg [(.agg [(.dat (.list aN))]), DI, DI])]⟩, (.exit 80000002), ⟨[], []⟩⟩
def af2 : Lp := ⟨⟨[(3, .ptr 0 a8 0 []), (4, .ptr 1 bv 0 []), (6, DI), (7, .ptr 2 aq 0 []), (8, DI)], [.box 85 a8 (.dat a8), .box 149 bv (.agg [(.agg [(.dat (.list aN))]), DI, DI]), .box 32 aq (.agg [(.own aN 3)]), .arr 87 aN false]⟩, (.exit 4), ⟨[(4, .ptr 0 bv 0 []), (6, DI), (7, .ptr 1 aq 0 [])], [.box 149 bv (.agg [(.agg [(.dat (.list aN))]), DI, DI]), .box 32 aq (.agg [(.own aN 2)]), .arr 87 aN false]⟩, (.exit 80000004), ⟨[], []⟩⟩
def axL : Shape := ⟨[(0, .dat aq), (1, .dat a8)], []⟩
def ayk : Shape := ⟨[(0, .dat bv)], []⟩
def ac0 : Ent := ⟨88, axL, ayk, sZ⟩
def ua : Fx := bj Acx (av [vH, wP]) (fun k st => bif Nat.beq k 0 then af0.go adk 0 st else bif Nat.beq k 2 then af1.go adl 0 st else bif Nat.beq k 4 then af2.go adm 0 st else .fail) 0
theorem xJ : aC Tryz.prog (ua).Γ := ag ⟨aaV, aeu, trivial⟩
theorem aw6 : aJ Tryz.prog ua Tryz.f88.ntmps 0 (al (ah Tryz.f88) 0) := Als (L := af0) (b := u5) (m := []) xJ trivial
theorem aw7 : aJ Tryz.prog ua Tryz.f88.ntmps 2 (al (ah Tryz.f88) 1) := Als (L := af1) (b := u6) (m := []) xJ trivial
theorem aw8 : aJ Tryz.prog ua Tryz.f88.ntmps 4 (al (ah Tryz.f88) 2) := Als (L := af2) (b := u7) (m := []) xJ trivial
theorem amt : AX ac0 := Afs (F := ua) (fn := Tryz.f88) (m := [(0, al (ah Tryz.f88) 0), (2, al (ah Tryz.f88) 1), (4, al (ah Tryz.f88) 2)]) xJ Tryz.func88 ⟨aw6, aw7, aw8, trivial⟩
def ans : Shape := ⟨[(0, .agg [(.own aN 0)]), (1, DI)], [.arr 87 aN false]⟩
def anH : Shape := ⟨[(0, DB)], [.arr 87 aN false]⟩
def abn : Ent := ⟨118, ans, anH, vQ⟩
def amU : Fx := bj Acx (av []) (fun k st => .fail) 1
theorem aot : AX abn := Afs (F := amU) (fn := Tryz.f118) (m := []) (ag trivial) Tryz.func118 trivial
def adV : Lp := ⟨⟨[(4, .ptr 0 aq 0 []), (6, .ptr 1 aq 0 []), (7, .dat (.list (.int .i64)))], [.box 32 aq (.agg [(.dat (.list aN))]), .box 32 aq (.agg [(.own aN 2)]), .arr 87 aN false]⟩, (.exit 0), ⟨[(4, .ptr 0 aq 0 []), (6, .ptr 1 aq 0 [])], [.box 32 aq (.agg [(.dat (.list aN))]), .box 32 aq (.agg [(.own aN 2)]), .arr 87 aN false]⟩, (.exit 80000000), ⟨[], []⟩⟩
def avp : Shape := ⟨[(0, .dat aq), (1, DI)], []⟩
def avO : Shape := ⟨[(0, .dat aq), (1, DI)], []⟩
def aa2 : Ent := ⟨89, avp, avO, vz⟩
def aaE : Fx := bj Acx (av [vH, wP, abn]) (fun k st => bif Nat.beq k 0 then adV.go aaU 0 st else .fail) 0
theorem ajl : aC Tryz.prog (aaE).Γ := ag ⟨aaV, aeu, aot, trivial⟩
theorem atK : aJ Tryz.prog aaE Tryz.f89.ntmps 0 (al (ah Tryz.f89) 0) := Als (L := adV) (b := rE) (m := []) ajl trivial
theorem ajm : AX aa2 := Afs (F := aaE) (fn := Tryz.f89) (m := [(0, al (ah Tryz.f89) 0)]) ajl Tryz.func89 ⟨atK, trivial⟩
def oV : Shape := ⟨[], []⟩
def pf : Shape := ⟨[(0, .dat bo)], []⟩
def arb : Ent := ⟨80, oV, pf, afW⟩
def arc : Fx := AF0 [ac0, aa2]
theorem ata : EntOK Tryz.prog arb := Afk (F := arc) (fn := Tryz.f80) (m := []) (ag ⟨amt, ajm, trivial⟩) Tryz.func80 trivial
def axD : Shape := ⟨[(0, .dat aq), (1, DI)], []⟩
def ayc : Shape := ⟨[(0, DB)], []⟩
def xu : Ent := ⟨98, axD, ayc, xS⟩
def axt : Fx := AF0 []
theorem acW : AX xu := Afs (F := axt) (fn := Tryz.f98) (m := []) (ag trivial) Tryz.func98 trivial
def azy : Shape := ⟨[(0, .dat aq), (1, DI)], []⟩
def az5 : Shape := ⟨[(0, .dat a8), (1, DI)], []⟩
def mw : Ent := ⟨59, azy, az5, mS⟩
def azp : Fx := AF0 [xu]
theorem sV : AX mw := Afs (F := azp) (fn := Tryz.f59) (m := []) (ag ⟨acW, trivial⟩) Tryz.func59 trivial
def axT : Shape := ⟨[(0, .dat a8)], []⟩
def ays : Shape := ⟨[(0, DB)], []⟩
def kL : Ent := ⟨60, axT, ays, tl⟩
def ax4 : Fx := AF0 []
theorem q9 : AX kL := Afs (F := ax4) (fn := Tryz.f60) (m := []) (ag trivial) Tryz.func60 trivial
def tw : Shape := ⟨[(0, DS), (1, DS)], []⟩
def tE : Shape := ⟨[(0, DI)], []⟩
def eC : Ent := ⟨231, tw, tE, de⟩
set_option maxHeartbeats 1000000 in
theorem qR (a b : ByteArray) (w : World) : Calls Tryz.prog 231 #[.string a, .string b] w fun e w' => e = .returned (.int .i64 (Lib.compareBytes a.data.toList b.data.toList)) /\ w' = w := by
  go_enter Tryz.func231, Tryz.ntmps231
  go_wp2
  rw [run_callFunc_extern Tryz.func250 (by kernel_rfl) (by kernel_rfl) (by kernel_rfl) (e := Extern.BytealgCompare.compare) (by kernel_rfl), Lib.run_compareString]
  simp only [Result.andThen]
  rw [Oper.upon_value]
  go_wp2
  go_ret
  exact ⟨rfl, rfl⟩
theorem tK : EntOK Tryz.prog eC := a4o (g := fun a b => Lib.compareBytes a b) Tryz.func231 (by kernel_rfl) qR
theorem tL : AX eC := tK.x (by kernel_rfl)
def ajN : Shape := ⟨[(0, DS), (1, DS)], []⟩
def aka : Shape := ⟨[(0, DI)], []⟩
def ye : Ent := ⟨208, ajN, aka, sc⟩
def ajA : Fx := AF0 [eC]
theorem ak9 : AX ye := Afs (F := ajA) (fn := Tryz.f208) (m := []) (ag ⟨tL, trivial⟩) Tryz.func208 trivial
def anu : Shape := ⟨[(0, .dat af), (1, DS)], []⟩
def anJ : Shape := ⟨[(0, DI)], []⟩
def abp : Ent := ⟨207, anu, anJ, ln⟩
def amV : Fx := AF0 [ye]
theorem ao4 : AX abp := Afs (F := amV) (fn := Tryz.f207) (m := []) (ag ⟨ak9, trivial⟩) Tryz.func207 trivial
def ct : Lp := ⟨⟨[(0, .dat (.list af)), (1, DS), (2, .fn 207 [] []), (8, DI), (9, DI), (10, DI)], []⟩, (.exit 0), ⟨[(0, .dat (.list af)), (1, DS), (2, .fn 207 [] []), (8, DI), (9, DI)], []⟩, (.exit 80000000), ⟨[], []⟩⟩
def jK : Shape := ⟨[(0, .dat (.list af)), (1, DS), (2, .fn 207 [] [])], []⟩
def jL : Shape := ⟨[(0, DI), (1, DB)], []⟩
def cJ : Ent := ⟨206, jK, jL, bu⟩
def bF : Fx := bj Acx (av [abp]) (fun k st => bif Nat.beq k 0 then ct.go bH 0 st else .fail) 0
theorem cM : aC Tryz.prog (bF).Γ := ag ⟨ao4, trivial⟩
theorem jm : aJ Tryz.prog bF Tryz.f206.ntmps 0 (al (ah Tryz.f206) 0) := Als (L := ct) (b := bn) (m := []) cM trivial
theorem jQ : AX cJ := Afs (F := bF) (fn := Tryz.f206) (m := [(0, al (ah Tryz.f206) 0)]) cM Tryz.func206 ⟨jm, trivial⟩
def arO : Shape := ⟨[(0, .dat (.list af)), (1, DS)], []⟩
def ast : Shape := ⟨[(0, DI), (1, DB)], []⟩
def tY : Ent := ⟨164, arO, ast, tf⟩
def aru : Fx := AF0 [cJ]
theorem zp : AX tY := Afs (F := aru) (fn := Tryz.f164) (m := []) (ag ⟨jQ, trivial⟩) Tryz.func164 trivial
def avy : Shape := ⟨[(0, .dat (.list af)), (1, DS)], []⟩
def avX : Shape := ⟨[(0, .dat af), (1, DB)], []⟩
def aa3 : Ent := ⟨127, avy, avX, adx⟩
def auO : Fx := AF0 [tY]
theorem awI : AX aa3 := Afs (F := auO) (fn := Tryz.f127) (m := []) (ag ⟨zp, trivial⟩) Tryz.func127 trivial
def sg : Shape := ⟨[(0, .dat (.list am))], []⟩
def so : Shape := ⟨[(0, .fn 209 [] [(.ptr 0 (.list am) 0 [])])], [.box 83 (.list am) (.dat (.list am))]⟩
def dW : Ent := ⟨165, sg, so, cN⟩
def sf : Fx := AF0 []
theorem ke : AX dW := Afs (F := sf) (fn := Tryz.f165) (m := []) (ag trivial) Tryz.func165 trivial
def azz : Shape := ⟨[(0, .dat ac), (1, DS)], []⟩
def az6 : Shape := ⟨[(0, DB)], []⟩
def oO : Ent := ⟨174, azz, az6, uJ⟩
def azq : Fx := AF0 []
theorem tb : AX oO := Afs (F := azq) (fn := Tryz.f174) (m := []) (ag trivial) Tryz.func174 trivial
def arR : Shape := ⟨[(0, .ptr 0 aD 0 []), (1, DI)], [.box 190 aD (.agg [DB, DB, (.agg [DS, DS, DI]), DS, DB, DI])]⟩
def asw : Shape := ⟨[], [.box 190 aD (.agg [DB, DB, (.agg [DS, DS, DI]), DS, DB, DI])]⟩
def yh : Ent := ⟨375, arR, asw, pK⟩
def arx : Fx := bj Acx (av []) (fun k st => .fail) 1
theorem agY : AX yh := Afs (F := arx) (fn := Tryz.f375) (m := []) (ag trivial) Tryz.func375 trivial
def an1 : Shape := ⟨[(0, .ptr 0 aD 0 []), (1, .dat am)], [.box 190 aD (.agg [DB, DB, (.agg [DS, DS, DI]), DS, DB, DI])]⟩
def anP : Shape := ⟨[(0, DB)], [.box 190 aD (.agg [DB, DB, (.agg [DS, DS, DI]), DS, DB, DI])]⟩
def abv : Ent := ⟨380, an1, anP, vW⟩
def anb : Fx := bj Acx (av [oO, yh]) (fun k st => .fail) 1
theorem aoB : AX abv := Afs (F := anb) (fn := Tryz.f380) (m := []) (ag ⟨tb, agY, trivial⟩) Tryz.func380 trivial
def tA : Shape := ⟨[(0, DS), (1, DS)], []⟩
def tG : Shape := ⟨[(0, DB)], []⟩
def eD : Ent := ⟨270, tA, tG, bG⟩
def tt : Fx := AF0 []
theorem kD : AX eD := Afs (F := tt) (fn := Tryz.f270) (m := []) (ag trivial) Tryz.func270 trivial
def tz : Shape := ⟨[(0, DS), (1, DS)], []⟩
def tF : Shape := ⟨[(0, DS), (1, DB)], []⟩
def kC : Ent := ⟨253, tz, tF, gE⟩
def tq : Fx := AF0 [eD]
theorem tM : AX kC := Afs (F := tq) (fn := Tryz.f253) (m := []) (ag ⟨kD, trivial⟩) Tryz.func253 trivial
def af5 : Shape := ⟨[(0, DS), (1, DS)], []⟩
def afB : Shape := ⟨[(0, DS), (1, DB)], []⟩
def oP : Ent := ⟨240, af5, afB, oB⟩
def afq : Fx := AF0 [kC]
theorem w7 : AX oP := Afs (F := afq) (fn := Tryz.f240) (m := []) (ag ⟨tM, trivial⟩) Tryz.func240 trivial
def avu : Shape := ⟨[(0, DS), (1, DS), (2, DS)], []⟩
def avT : Shape := ⟨[(0, DS), (1, DB)], []⟩
def vI : Ent := ⟨239, avu, avT, sD⟩
def auL : Fx := AF0 [oP]
theorem aaY : AX vI := Afs (F := auL) (fn := Tryz.f239) (m := []) (ag ⟨w7, trivial⟩) Tryz.func239 trivial
def avz : Shape := ⟨[(0, .ptr 0 aD 0 []), (1, .dat am)], [.box 190 aD (.agg [DB, DB, (.agg [DS, DS, DI]), DS, DB, DI])]⟩
def avY : Shape := ⟨[(0, DB)], [.box 190 aD (.agg [DB, DB, (.agg [DS, DS, DI]), DS, DB, DI])]⟩
def aa4 : Ent := ⟨379, avz, avY, vD⟩
def auP : Fx := bj Acx (av [vI]) (fun k st => .fail) 1
theorem ajw : AX aa4 := Afs (F := auP) (fn := Tryz.f379) (m := []) (ag ⟨aaY, trivial⟩) Tryz.func379 trivial
def af6 : Shape := ⟨[(0, DS), (1, DS)], []⟩
def afC : Shape := ⟨[(0, DB)], []⟩
def oQ : Ent := ⟨359, af6, afC, kX⟩
def afr : Fx := AF0 [eD]
theorem w8 : AX oQ := Afs (F := afr) (fn := Tryz.f359) (m := []) (ag ⟨kD, trivial⟩) Tryz.func359 trivial
def an0 : Shape := ⟨[(0, .ptr 0 aD 0 []), (1, .dat am)], [.box 190 aD (.agg [DB, DB, (.agg [DS, DS, DI]), DS, DB, DI])]⟩
def anO : Shape := ⟨[(0, DB)], [.box 190 aD (.agg [DB, DB, (.agg [DS, DS, DI]), DS, DB, DI])]⟩
def abu : Ent := ⟨378, an0, anO, vV⟩
def ana : Fx := bj Acx (av [aa4, oQ]) (fun k st => .fail) 1
theorem aoA : AX abu := Afs (F := ana) (fn := Tryz.f378) (m := []) (ag ⟨ajw, w8, trivial⟩) Tryz.func378 trivial
def anz : Shape := ⟨[(0, .ptr 0 aD 0 []), (1, .dat am)], [.box 190 aD (.agg [DB, DB, (.agg [DS, DS, DI]), DS, DB, DI])]⟩
def anN : Shape := ⟨[(0, DB)], [.box 190 aD (.agg [DB, DB, (.agg [DS, DS, DI]), DS, DB, DI])]⟩
def abt : Ent := ⟨377, anz, anN, vU⟩
def amZ : Fx := bj Acx (av [oO]) (fun k st => .fail) 1
theorem ao9 : AX abt := Afs (F := amZ) (fn := Tryz.f377) (m := []) (ag ⟨tb, trivial⟩) Tryz.func377 trivial
def anx : Shape := ⟨[(0, .ptr 0 aD 0 []), (1, .dat am)], [.box 190 aD (.agg [DB, DB, (.agg [DS, DS, DI]), DS, DB, DI])]⟩
def anM : Shape := ⟨[(0, DB)], [.box 190 aD (.agg [DB, DB, (.agg [DS, DS, DI]), DS, DB, DI])]⟩
def abs : Ent := ⟨376, anx, anM, abc⟩
def amY : Fx := bj Acx (av []) (fun k st => .fail) 1
theorem ao8 : AX abs := Afs (F := amY) (fn := Tryz.f376) (m := []) (ag trivial) Tryz.func376 trivial
def anw : Shape := ⟨[(0, .ptr 0 aD 0 []), (1, .dat am)], [.box 190 aD (.agg [DB, DB, (.agg [DS, DS, DI]), DS, DB, DI])]⟩
def anL : Shape := ⟨[(0, DB)], [.box 190 aD (.agg [DB, DB, (.agg [DS, DS, DI]), DS, DB, DI])]⟩
def abr : Ent := ⟨374, anw, anL, vT⟩
def amX : Fx := bj Acx (av [yh]) (fun k st => .fail) 1
theorem ao7 : AX abr := Afs (F := amX) (fn := Tryz.f374) (m := []) (ag ⟨agY, trivial⟩) Tryz.func374 trivial
def qN : Shape := ⟨[(0, .yld 1012800 0), (1, DI), (2, .dat am)], [.loop 1012800 [(5, .ptr 1 aD 0 []), (4, .ptr 2 aD 0 [])], .box 190 aD (.agg [DB, DB, (.agg [DS, DS, DI]), DS, DB, DI]), .box 190 aD (.agg [DB, DB, (.agg [DS, DS, DI]), DS, DB, DI])]⟩
def qQ : Shape := ⟨[(0, DB)], [.loop 1012800 [(5, .ptr 1 aD 0 []), (4, .ptr 2 aD 0 [])], .box 190 aD (.agg [DB, DB, (.agg [DS, DS, DI]), DS, DB, DI]), .box 190 aD (.agg [DB, DB, (.agg [DS, DS, DI]), DS, DB, DI])]⟩
def xh : Ent := ⟨1012800, qN, qQ, bZ⟩
def xi : Fx := bj Acx (av [abv, aa4, abu, abt, abs, abr]) (fun k st => .fail) 3
theorem ahX (s : qN.ty.den) : @Eq (Option qQ.ty.den) (aoJ xi evC 1012800 (acY Tryz.f128 0) qN qQ s).val (bZ s) := by kernel_rfl
theorem ahY : AX xh :=
  adq (F := xi) (c := acY Tryz.f128 0) gZ (ag ⟨aoB, ajw, aoA, ao9, ao8, ao7, trivial⟩) bC (by kernel_rfl) (by kernel_rfl) (by kernel_rfl) (m := []) (by kernel_rfl) trivial (by kernel_rfl) ahX
def gN : Lp := ⟨⟨[(0, .yld 1012800 0), (1, .ptr 1 (.list am) 0 []), (3, DI)], [.loop 1012800 [(5, .ptr 2 aD 0 []), (4, .ptr 3 aD 0 [])], .box 83 (.list am) (.dat (.list am)), .box 190 aD (.agg [DB, DB, (.agg [DS, DS, DI]), DS, DB, DI]), .box 190 aD (.agg [DB, DB, (.agg [DS, DS, DI]), DS, DB, DI])]⟩, .ret, ⟨[], [.loop 1012800 [(5, .ptr 2 aD 0 []), (4, .ptr 3 aD 0 [])], .box 83 (.list am) (.dat (.list am)), .box 190 aD (.agg [DB, DB, (.agg [DS, DS, DI]), DS, DB, DI]), .box 190 aD (.agg [DB, DB, (.agg [DS, DS, DI]), DS, DB, DI])]⟩, (.exit 0), ⟨[], [.loop 1012800 [(5, .ptr 2 aD 0 []), (4, .ptr 3 aD 0 [])], .box 83 (.list am) (.dat (.list am)), .box 190 aD (.agg [DB, DB, (.agg [DS, DS, DI]), DS, DB, DI]), .box 190 aD (.agg [DB, DB, (.agg [DS, DS, DI]), DS, DB, DI])]⟩⟩
def qa : Shape := ⟨[(0, .yld 1012800 0), (1, .ptr 1 (.list am) 0 [])], [.loop 1012800 [(5, .ptr 2 aD 0 []), (4, .ptr 3 aD 0 [])], .box 83 (.list am) (.dat (.list am)), .box 190 aD (.agg [DB, DB, (.agg [DS, DS, DI]), DS, DB, DI]), .box 190 aD (.agg [DB, DB, (.agg [DS, DS, DI]), DS, DB, DI])]⟩
def qf : Shape := ⟨[], [.loop 1012800 [(5, .ptr 2 aD 0 []), (4, .ptr 3 aD 0 [])], .box 83 (.list am) (.dat (.list am)), .box 190 aD (.agg [DB, DB, (.agg [DS, DS, DI]), DS, DB, DI]), .box 190 aD (.agg [DB, DB, (.agg [DS, DS, DI]), DS, DB, DI])]⟩
def ip : Ent := ⟨209, qa, qf, ee⟩
def da : Fx := bj Acx (av [xh]) (fun k st => bif Nat.beq k 0 then gN.go dj 4 st else .fail) 4
theorem i8 : aC Tryz.prog (da).Γ := ag ⟨ahY, trivial⟩
theorem p9 : aJ Tryz.prog da Tryz.f209.ntmps 0 (al (ah Tryz.f209) 0) := Als (L := gN) (b := bB) (m := []) i8 trivial
theorem qo : AX ip := Afs (F := da) (fn := Tryz.f209) (m := [(0, al (ah Tryz.f209) 0)]) i8 Tryz.func209 ⟨p9, trivial⟩
def acA : Shape := ⟨[(0, DS), (1, .dat (.list am))], []⟩
def acC : Shape := ⟨[(0, .dat aD)], []⟩
def xw : Ent := ⟨128, acA, acC, aco⟩
def alb : Fx := { cx := Acx, Γ := av [dW, ip], Λ := fun k st => .fail, keep := fun _ => none, m := 0, rfs := fun k => bif Nat.beq k 3 then some 1012800 else none, its := [209] }
theorem aze (s : acA.ty.den) : @Eq (Option acC.ty.den) (aoc alb Tryz.f128 acA acC s).val (aco s) := by kernel_rfl
theorem azf : EntOK Tryz.prog xw :=
  sR (F := alb) gZ (ag ⟨ke, qo, trivial⟩) bC (fn := Tryz.f128) (m := []) Tryz.func128 (by kernel_rfl) (by kernel_rfl) (by kernel_rfl) trivial (amz (m := [(3, acY Tryz.f128 0)]) (its := [209]) (by kernel_rfl) ⟨atS (Y := 1012800) (by kernel_rfl) (by kernel_rfl), trivial⟩ (by kernel_rfl) ⟨⟨_, Tryz.func209, by kernel_rfl, by kernel_rfl⟩, trivial⟩) (by kernel_rfl) aze
theorem azg : AX xw := (azf).x (by kernel_rfl)
def ah6 : Shape := ⟨[(0, DS)], []⟩
def ahB : Shape := ⟨[(0, DB)], []⟩
def qG : Ent := ⟨232, ah6, ahB, jM⟩
def ah2 : Fx := AF0 []
theorem xl : AX qG := Afs (F := ah2) (fn := Tryz.f232) (m := []) (ag trivial) Tryz.func232 trivial
def ajC : Shape := ⟨[(0, DS), (1, DS)], []⟩
def ajP : Shape := ⟨[(0, DB)], []⟩
def xW : Ent := ⟨210, ajC, ajP, rY⟩
def ajz : Fx := AF0 [qG]
theorem aki : AX xW := Afs (F := ajz) (fn := Tryz.f210) (m := []) (ag ⟨xl, trivial⟩) Tryz.func210 trivial
def ac9 : Shape := ⟨[(0, DS)], []⟩
def acB : Shape := ⟨[(0, DB)], []⟩
def tW : Ent := ⟨211, ac9, acB, lC⟩
def ac6 : Fx := AF0 []
theorem adr : AX tW := Afs (F := ac6) (fn := Tryz.f211) (m := []) (ag trivial) Tryz.func211 trivial
def hX : Lp := ⟨⟨[(0, .dat (.list .str)), (1, DS), (6, DI), (7, DI), (8, DI)], []⟩, (.exit 0), ⟨[(0, .dat (.list .str)), (1, DS), (6, DI), (7, DI)], []⟩, (.exit 80000000), ⟨[], []⟩⟩
def qL : Shape := ⟨[(0, .dat (.list .str)), (1, DS)], []⟩
def qO : Shape := ⟨[(0, DI), (1, DB)], []⟩
def iW : Ent := ⟨166, qL, qO, ck⟩
def dp : Fx := bj Acx (av [xW, tW]) (fun k st => bif Nat.beq k 0 then hX.go dq 0 st else .fail) 0
theorem jd : aC Tryz.prog (dp).Γ := ag ⟨aki, adr, trivial⟩
theorem qp : aJ Tryz.prog dp Tryz.f166.ntmps 0 (al (ah Tryz.f166) 0) := Als (L := hX) (b := bV) (m := []) jd trivial
theorem qV : AX iW := Afs (F := dp) (fn := Tryz.f166) (m := [(0, al (ah Tryz.f166) 0)]) jd Tryz.func166 ⟨qp, trivial⟩
def axN : Shape := ⟨[(0, DS), (1, .dat (.list .str))], []⟩
def aym : Shape := ⟨[(0, DI)], []⟩
def ac2 : Ent := ⟨131, axN, aym, ahw⟩
def ax0 : Fx := AF0 [iW]
theorem ayY : AX ac2 := Afs (F := ax0) (fn := Tryz.f131) (m := []) (ag ⟨qV, trivial⟩) Tryz.func131 trivial
def arP : Shape := ⟨[(0, .dat aD), (1, .dat af), (2, DB)], []⟩
def asu : Shape := ⟨[(0, .dat af), (1, DB)], []⟩
def yg : Ent := ⟨130, arP, asu, tg⟩
def arv : Fx := AF0 []
theorem aup : AX yg := Afs (F := arv) (fn := Tryz.f130) (m := []) (ag trivial) Tryz.func130 trivial

end D
/- Entries, by program. -/
open Go Go.X Go.Proofs D
namespace D
def aiw : Lp := ⟨⟨[(1, DS), (2, .ptr 0 bo 0 []), (4, .ptr 1 af 0 []), (5, .ptr 2 .bool 0 []), (6, .ptr 3 (.int .i64) 0 []), (8, DI), (1000000000, .dfr 129 [(.ptr 3 (.int .i64) 0 [])] [(.ptr 1 af 0 []), (.ptr 2 .bool 0 [])] aD)], [.box 36 bo (.dat bo), .box 58 af (.agg [DS, DS, DI]), .box 4 .bool DB, .box 3 (.int .i64) DI]⟩, .ret, ⟨[(4, .ptr 0 af 0 []), (5, .ptr 1 .bool 0 []), (6, .ptr 2 (.int .i64) 0 []), (7, DI), (1000000000, .dfr 129 [(.ptr 2 (.int .i64) 0 [])] [(.ptr 0 af 0 []), (.ptr 1 .bool 0 [])] aD)], [.box 58 af (.dat af), .box 4 .bool DB, .box 3 (.int .i64) DI]⟩, (.exit 80000000), ⟨[], []⟩⟩
def nj : Lp := ⟨⟨[(4, .ptr 0 af 0 []), (5, .ptr 1 .bool 0 []), (6, .ptr 2 (.int .i64) 0 []), (7, DI), (1000000000, .dfr 129 [(.ptr 2 (.int .i64) 0 [])] [(.ptr 0 af 0 []), (.ptr 1 .bool 0 [])] aD)], [.box 58 af (.dat af), .box 4 .bool DB, .box 3 (.int .i64) DI]⟩, .nrm, ⟨[(4, .ptr 0 af 0 []), (5, .ptr 1 .bool 0 []), (6, .ptr 2 (.int .i64) 0 []), (7, DI)], [.box 58 af (.dat af), .box 4 .bool DB, .box 3 (.int .i64) DI]⟩, (.exit 80000000), ⟨[], []⟩⟩
def pc : Shape := ⟨[(0, .dat bo), (1, DS)], []⟩
def pk : Shape := ⟨[(0, .dat af), (1, DB), (2, DI), (3, DI)], []⟩
def afp : Ent := ⟨81, pc, pk, zq⟩
def we : Fx := { cx := Acx, Γ := av [mw, kL, aa3, xw, ac2, yg], Λ := fun k st => bif Nat.beq k 0 then aiw.go aha 0 st else bif Nat.beq k gd then nj.go aas 0 st else .fail, keep := fun _ => none, m := 0, dfr := fun k => bif Nat.beq k 0 then some (129, [6], [4, 5], aD) else none }
def ald : Fx := bj Acx (av [mw, kL, aa3, xw, ac2, yg]) (fun _ _ => .fail) 3
theorem aut (s : nj.S.ty.den) : @Eq (Option (nj.S.ty.den ⊕ nj.Out)) (acL nj (we).m ald 129 Tryz.f129 s).val (th s) := by kernel_rfl
theorem a07 (s : pc.ty.den) : @Eq (Option pk.ty.den) (a1C we Tryz.f81 pc pk s).val (zq s) := by kernel_rfl
theorem agZ : aC Tryz.prog (we).Γ := ag ⟨sV, q9, awI, azg, ayY, aup, trivial⟩
theorem azh : aJ Tryz.prog we Tryz.f81.ntmps 0 (al (ah Tryz.f81) 0) := Als (L := aiw) (b := wI) (m := []) agZ trivial
theorem apr : EntOK Tryz.prog afp :=
  a0U (F := we) (Fd := ald) (L := nj) (fd := 129) (fnd := Tryz.f129) (b := th) (g := aas) gZ agZ bC (fn := Tryz.f81) (m := [(0, al (ah Tryz.f81) 0)]) Tryz.func81 (by kernel_rfl) (by kernel_rfl) (by kernel_rfl) ⟨azh, trivial⟩ (fun _ => rfl) (by kernel_rfl) gZ agZ Tryz.func129 (by kernel_rfl) (by kernel_rfl) (by kernel_rfl) (by kernel_rfl) aut (by kernel_rfl) a07
theorem a08 : AX afp := (apr).x (by kernel_rfl)
def ae8 : Shape := ⟨[(0, .ptr 0 aB 0 []), (1, DI), (2, .dat ac), (3, .dat (.list ac))], [.box 143 aB (.agg [(.dat aq), DI])]⟩
def aeC : Shape := ⟨[(0, .fn 135 [] [(.ptr 1 .opq 0 []), (.ptr 2 (.int .i64) 0 []), (.ptr 3 ac 0 []), (.ptr 4 (.list ac) 0 [])])], [.box 143 aB (.agg [(.dat aq), DI]), .box 141 .opq (.ptr 0 aB 0 []), .box 3 (.int .i64) DI, .box 39 ac (.dat ac), .box 62 (.list ac) (.dat (.list ac))]⟩
def nu : Ent := ⟨85, ae8, aeC, sG⟩
def ae4 : Fx := bj Acx (av []) (fun k st => .fail) 1
theorem vf : AX nu := Afs (F := ae4) (fn := Tryz.f85) (m := []) (ag trivial) Tryz.func85 trivial
def dE : Shape := ⟨[(0, .ptr 0 aB 0 []), (1, .dat a8), (2, .dat ac), (3, .dat (.list ac))], [.box 143 aB (.agg [(.dat aq), DI])]⟩
def dF : Shape := ⟨[(0, .dat (.list af))], [.box 143 aB (.agg [(.dat aq), DI])]⟩
def bp (tree_scanner_below_r : (api_Node × aa × (List aa) × aj × Int × Unit) -> Option ((List ae) × aj × Int × Unit)) : Ent := ⟨136, dE, dF, tree_scanner_below_r⟩
def tD : Shape := ⟨[(0, .dat (.list ac))], []⟩
def tJ : Shape := ⟨[(0, .own ac 0)], [.arr 39 ac false]⟩
def eE : Ent := ⟨234, tD, tJ, lR⟩
def tv : Fx := bj Acx (av []) (fun _ _ => .fail) 0
theorem tP : EntOK Tryz.prog eE :=
  awM (F := tv) gZ (ag trivial) bC (fn := Tryz.f234) Tryz.func234 (by kernel_rfl) (by kernel_rfl) (by kernel_rfl) (by kernel_rfl) (by kernel_rfl) (fun s => (decide ((List.length ([] : List aa) + List.length s.1) * 32 <= aw))) (fun s => (s.1, ())) (fun s => ([], ())) (fun s => List.length s.1) (fun s => rfl) (fun s => by kernel_rfl) (fun s => by kernel_rfl) (fun s h => congrArg (fun l => (l, ())) (List.eq_nil_of_length_eq_zero h).symm)
theorem tQ : AX eE := tP.x (by kernel_rfl)
def avs : Shape := ⟨[(0, .dat ac)], []⟩
def avR : Shape := ⟨[(0, DB)], []⟩
def gY : Ent := ⟨74, avs, avR, mP⟩
def auK : Fx := AF0 []
theorem jD : AX gY := Afs (F := auK) (fn := Tryz.f74) (m := []) (ag trivial) Tryz.func74 trivial
def gQ : Lp := ⟨⟨[(0, .own ac 0), (1, .fn 74 [] []), (7, DI), (8, DI)], [.arr 39 ac false]⟩, .ret, ⟨[(4, DI)], [.arr 39 ac false]⟩, (.exit 0), ⟨[], [.arr 39 ac false]⟩⟩
def qd : Shape := ⟨[(0, .own ac 0), (1, .fn 74 [] [])], [.arr 39 ac false]⟩
def qi : Shape := ⟨[(0, DI)], [.arr 39 ac false]⟩
def iu : Ent := ⟨116, qd, qi, kn⟩
def dd : Fx := bj Acx (av [gY]) (fun k st => bif Nat.beq k 0 then gQ.go iK 1 st else .fail) 1
theorem iJ : aC Tryz.prog (dd).Γ := ag ⟨jD, trivial⟩
theorem pF : aJ Tryz.prog dd Tryz.f116.ntmps 0 (al (ah Tryz.f116) 0) := Als (L := gQ) (b := iI) (m := []) iJ trivial
theorem qs : AX iu := Afs (F := dd) (fn := Tryz.f116) (m := [(0, al (ah Tryz.f116) 0)]) iJ Tryz.func116 ⟨pF, trivial⟩
def fN : Lp := ⟨⟨[(0, .own ac 0), (1, .fn 74 [] []), (5, DI), (6, DI)], [.arr 39 ac false]⟩, (.exit 0), ⟨[(0, .own ac 0), (5, DI)], [.arr 39 ac false]⟩, (.exit 80000000), ⟨[], []⟩⟩
def oY : Shape := ⟨[(0, .own ac 0), (1, .fn 74 [] [])], [.arr 39 ac false]⟩
def pi : Shape := ⟨[(0, .own ac 1)], [.gone, .arr 39 ac false]⟩
def hO : Ent := ⟨233, oY, pi, jt⟩
def cP : Fx := bj Acx (av [gY, iu]) (fun k st => bif Nat.beq k 0 then fN.go ii 1 st else .fail) 1
theorem ig : aC Tryz.prog (cP).Γ := ag ⟨jD, qs, trivial⟩
theorem oJ : aJ Tryz.prog cP Tryz.f233.ntmps 0 (al (ah Tryz.f233) 0) := Als (L := fN) (b := ie) (m := []) ig trivial
theorem pC : AX hO := Afs (F := cP) (fn := Tryz.f233) (m := [(0, al (ah Tryz.f233) 0)]) ig Tryz.func233 ⟨oJ, trivial⟩
def ajD : Shape := ⟨[(0, .dat (.int .u64))], []⟩
def ajQ : Shape := ⟨[(0, DI)], []⟩
def xX : Ent := ⟨269, ajD, ajQ, aeb⟩
def aj0 : Fx := AF0 []
theorem akp : AX xX := Afs (F := aj0) (fn := Tryz.f269) (m := []) (ag trivial) Tryz.func269 trivial
def ane : Shape := ⟨[(0, .dat (.int .u64))], []⟩
def an3 : Shape := ⟨[(0, DI)], []⟩
def vg : Ent := ⟨252, ane, an3, aaN⟩
def amH : Fx := AF0 [xX]
theorem abO : AX vg := Afs (F := amH) (fn := Tryz.f252) (m := []) (ag ⟨akp, trivial⟩) Tryz.func252 trivial
def bz : Shape := ⟨[(0, .own ac 0), (1, DI), (2, DI), (3, DI), (4, .fn 236 [] [])], [.arr 39 ac false]⟩
def b9 : Shape := ⟨[], [.arr 39 ac false]⟩
def aU (slices_pdqsortCmpFunc_api_Span_r : (Int × Int × Int × (List aa) × Unit) -> Option ((List aa) × Unit)) : Ent := ⟨251, bz, b9, slices_pdqsortCmpFunc_api_Span_r⟩
def ae5 : Shape := ⟨[(0, DS), (1, DS)], []⟩
def ae9 : Shape := ⟨[(0, DI)], []⟩
def uO : Ent := ⟨237, ae5, ae9, yD⟩
def ae2 : Fx := AF0 [qG]
theorem aeD : AX uO := Afs (F := ae2) (fn := Tryz.f237) (m := []) (ag ⟨xl, trivial⟩) Tryz.func237 trivial
def arI : Shape := ⟨[(0, .dat ac), (1, .dat ac)], []⟩
def asm : Shape := ⟨[(0, DI)], []⟩
def hS : Ent := ⟨236, arI, asm, cW⟩
def arq : Fx := AF0 [uO]
theorem ky : AX hS := Afs (F := arq) (fn := Tryz.f236) (m := []) (ag ⟨aeD, trivial⟩) Tryz.func236 trivial
def ft : Lp := ⟨⟨[(0, .own ac 0), (1, DI), (2, DI), (3, .fn 236 [] []), (8, DI), (9, DI)], [.arr 39 ac false]⟩, (.exit 2), ⟨[(0, .own ac 0), (1, DI), (2, DI), (3, .fn 236 [] []), (8, DI)], [.arr 39 ac false]⟩, (.exit 80000002), ⟨[], []⟩⟩
def fq : Lp := ⟨⟨[(0, .own ac 0), (1, DI), (2, DI), (3, .fn 236 [] []), (8, DI)], [.arr 39 ac false]⟩, (.exit 0), ⟨[], [.arr 39 ac false]⟩, (.exit 80000000), ⟨[], []⟩⟩
def oF : Shape := ⟨[(0, .own ac 0), (1, DI), (2, DI), (3, .fn 236 [] [])], [.arr 39 ac false]⟩
def oH : Shape := ⟨[], [.arr 39 ac false]⟩
def gM : Ent := ⟨260, oF, oH, jf⟩
def bM : Fx := bj Acx (av [hS]) (fun k st => bif Nat.beq k 2 then ft.go gX 1 st else bif Nat.beq k 0 then fq.go gW 1 st else .fail) 1
theorem cI : aC Tryz.prog (bM).Γ := ag ⟨ky, trivial⟩
theorem gq : aJ Tryz.prog bM Tryz.f260.ntmps 2 (al (ah Tryz.f260) 1) := Als (L := ft) (b := gV) (m := []) cI trivial
theorem oc : aJ Tryz.prog bM Tryz.f260.ntmps 0 (al (ah Tryz.f260) 0) := Als (L := fq) (b := gU) (m := [(2, al (ah Tryz.f260) 1)]) cI ⟨gq, trivial⟩
theorem oL : AX gM := Afs (F := bM) (fn := Tryz.f260) (m := [(0, al (ah Tryz.f260) 0), (2, al (ah Tryz.f260) 1)]) cI Tryz.func260 ⟨oc, gq, trivial⟩
def jc : Lp := ⟨⟨[(0, .own ac 0), (2, DI), (3, DI), (4, .fn 236 [] []), (10, DI)], [.arr 39 ac false]⟩, (.exit 0), ⟨[], [.arr 39 ac false]⟩, .ret, ⟨[], [.arr 39 ac false]⟩⟩
def sn : Shape := ⟨[(0, .own ac 0), (1, DI), (2, DI), (3, DI), (4, .fn 236 [] [])], [.arr 39 ac false]⟩
def sw : Shape := ⟨[], [.arr 39 ac false]⟩
def jV : Ent := ⟨283, sn, sw, fC⟩
def dY : Fx := bj Acx (av [hS]) (fun k st => bif Nat.beq k 0 then jc.go kx 1 st else .fail) 1
theorem kw : aC Tryz.prog (dY).Γ := ag ⟨ky, trivial⟩
theorem rN : aJ Tryz.prog dY Tryz.f283.ntmps 0 (al (ah Tryz.f283) 0) := Als (L := jc) (b := kv) (m := []) kw trivial
theorem sC : AX jV := Afs (F := dY) (fn := Tryz.f283) (m := [(0, al (ah Tryz.f283) 0)]) kw Tryz.func283 ⟨rN, trivial⟩
def ja : Lp := ⟨⟨[(0, .own ac 0), (3, .fn 236 [] []), (8, DI), (9, DI), (10, DI), (11, DI)], [.arr 39 ac false]⟩, (.exit 0), ⟨[(0, .own ac 0), (3, .fn 236 [] []), (8, DI), (9, DI), (10, DI)], [.arr 39 ac false]⟩, (.exit 80000000), ⟨[], []⟩⟩
def jb : Lp := ⟨⟨[(0, .own ac 0), (3, .fn 236 [] []), (8, DI), (9, DI), (12, DI)], [.arr 39 ac false]⟩, (.exit 2), ⟨[], [.arr 39 ac false]⟩, (.exit 80000002), ⟨[], []⟩⟩
def sk : Shape := ⟨[(0, .own ac 0), (1, DI), (2, DI), (3, .fn 236 [] [])], [.arr 39 ac false]⟩
def sv : Shape := ⟨[], [.arr 39 ac false]⟩
def jU : Ent := ⟨261, sk, sv, lz⟩
def ce : Fx := bj Acx (av [jV]) (fun k st => bif Nat.beq k 0 then ja.go kt 1 st else bif Nat.beq k 2 then jb.go ku 1 st else .fail) 1
theorem ej : aC Tryz.prog (ce).Γ := ag ⟨sC, trivial⟩
theorem rK : aJ Tryz.prog ce Tryz.f261.ntmps 0 (al (ah Tryz.f261) 0) := Als (L := ja) (b := kq) (m := []) ej trivial
theorem rL : aJ Tryz.prog ce Tryz.f261.ntmps 2 (al (ah Tryz.f261) 1) := Als (L := jb) (b := kr) (m := []) ej trivial
theorem sA : AX jU := Afs (F := ce) (fn := Tryz.f261) (m := [(0, al (ah Tryz.f261) 0), (2, al (ah Tryz.f261) 1)]) ej Tryz.func261 ⟨rK, rL, trivial⟩
def uj : Shape := ⟨[(0, .own ac 0), (1, DI), (2, DI), (3, .ptr 1 (.int .i64) 0 []), (4, .fn 236 [] [])], [.arr 39 ac false, .box 3 (.int .i64) DI]⟩
def um : Shape := ⟨[(0, DI), (1, DI)], [.arr 39 ac false, .box 3 (.int .i64) DI]⟩
def kK : Ent := ⟨296, uj, um, d9⟩
def ud : Fx := bj Acx (av [hS]) (fun k st => .fail) 2
theorem uI : AX kK := Afs (F := ud) (fn := Tryz.f296) (m := []) (ag ⟨ky, trivial⟩) Tryz.func296 trivial
def ui : Shape := ⟨[(0, .own ac 0), (1, DI), (2, DI), (3, DI), (4, .ptr 1 (.int .i64) 0 []), (5, .fn 236 [] [])], [.arr 39 ac false, .box 3 (.int .i64) DI]⟩
def ul : Shape := ⟨[(0, DI)], [.arr 39 ac false, .box 3 (.int .i64) DI]⟩
def eO : Ent := ⟨287, ui, ul, ij⟩
def uc : Fx := bj Acx (av [kK]) (fun k st => .fail) 2
theorem kU : AX eO := Afs (F := uc) (fn := Tryz.f287) (m := []) (ag ⟨uI, trivial⟩) Tryz.func287 trivial
def nD : Shape := ⟨[(0, .own ac 0), (1, DI), (2, .ptr 1 (.int .i64) 0 []), (3, .fn 236 [] [])], [.arr 39 ac false, .box 3 (.int .i64) DI]⟩
def nN : Shape := ⟨[(0, DI)], [.arr 39 ac false, .box 3 (.int .i64) DI]⟩
def fK : Ent := ⟨286, nD, nN, bS⟩
def nz : Fx := bj Acx (av [eO]) (fun k st => .fail) 2
theorem od : AX fK := Afs (F := nz) (fn := Tryz.f286) (m := []) (ag ⟨kU, trivial⟩) Tryz.func286 trivial
def qe : Shape := ⟨[(0, .own ac 0), (1, DI), (2, DI), (3, .fn 236 [] [])], [.arr 39 ac false]⟩
def qj : Shape := ⟨[(0, DI), (1, DI)], [.arr 39 ac false]⟩
def iv : Ent := ⟨263, qe, qj, ko⟩
def pZ : Fx := bj Acx (av [eO, fK]) (fun k st => .fail) 1
theorem qt : AX iv := Afs (F := pZ) (fn := Tryz.f263) (m := []) (ag ⟨kU, od, trivial⟩) Tryz.func263 trivial
def fO : Lp := ⟨⟨[(0, .own ac 0), (8, DI), (9, DI)], [.arr 39 ac false]⟩, (.exit 0), ⟨[], [.arr 39 ac false]⟩, (.exit 80000000), ⟨[], []⟩⟩
def oZ : Shape := ⟨[(0, .own ac 0), (1, DI), (2, DI), (3, .fn 236 [] [])], [.arr 39 ac false]⟩
def pj : Shape := ⟨[], [.arr 39 ac false]⟩
def hQ : Ent := ⟨264, oZ, pj, jC⟩
def cQ : Fx := bj Acx (av []) (fun k st => bif Nat.beq k 0 then fO.go io 1 st else .fail) 1
theorem im : aC Tryz.prog (cQ).Γ := ag trivial
theorem oM : aJ Tryz.prog cQ Tryz.f264.ntmps 0 (al (ah Tryz.f264) 0) := Als (L := fO) (b := il) (m := []) im trivial
theorem pH : AX hQ := Afs (F := cQ) (fn := Tryz.f264) (m := [(0, al (ah Tryz.f264) 0)]) im Tryz.func264 ⟨oM, trivial⟩
def dl : Lp := ⟨⟨[(0, .own ac 0), (1, DI), (2, DI), (3, .fn 236 [] []), (9, DI), (10, DI)], [.arr 39 ac false]⟩, (.exit 2), ⟨[(0, .own ac 0), (1, DI), (2, DI), (3, .fn 236 [] []), (9, DI), (10, DI)], [.arr 39 ac false]⟩, (.exit 80000002), ⟨[], []⟩⟩
def dm : Lp := ⟨⟨[(0, .own ac 0), (1, DI), (2, DI), (3, .fn 236 [] []), (9, DI), (10, DI), (11, DI)], [.arr 39 ac false]⟩, (.exit 4), ⟨[(0, .own ac 0), (1, DI), (2, DI), (3, .fn 236 [] []), (9, DI), (10, DI)], [.arr 39 ac false]⟩, (.exit 80000004), ⟨[], []⟩⟩
def dn : Lp := ⟨⟨[(0, .own ac 0), (1, DI), (2, DI), (3, .fn 236 [] []), (9, DI), (10, DI), (12, DI)], [.arr 39 ac false]⟩, (.exit 6), ⟨[(0, .own ac 0), (1, DI), (2, DI), (3, .fn 236 [] []), (9, DI), (10, DI)], [.arr 39 ac false]⟩, (.exit 80000006), ⟨[], []⟩⟩
def dk : Lp := ⟨⟨[(0, .own ac 0), (1, DI), (2, DI), (3, .fn 236 [] []), (9, DI), (10, DI)], [.arr 39 ac false]⟩, .ret, ⟨[(8, DB)], [.arr 39 ac false]⟩, (.exit 0), ⟨[], [.arr 39 ac false]⟩⟩
def lc : Shape := ⟨[(0, .own ac 0), (1, DI), (2, DI), (3, .fn 236 [] [])], [.arr 39 ac false]⟩
def ld : Shape := ⟨[(0, DB)], [.arr 39 ac false]⟩
def dH : Ent := ⟨265, lc, ld, eN⟩
def aT : Fx := bj Acx (av [hS]) (fun k st => bif Nat.beq k 2 then dl.go dQ 1 st else bif Nat.beq k 4 then dm.go dR 1 st else bif Nat.beq k 6 then dn.go dS 1 st else bif Nat.beq k 0 then dk.go dP 1 st else .fail) 1
theorem bh : aC Tryz.prog (aT).Γ := ag ⟨ky, trivial⟩
theorem dA : aJ Tryz.prog aT Tryz.f265.ntmps 2 (al (ah Tryz.f265) 1) := Als (L := dl) (b := dM) (m := []) bh trivial
theorem dB : aJ Tryz.prog aT Tryz.f265.ntmps 4 (al (ah Tryz.f265) 2) := Als (L := dm) (b := dN) (m := []) bh trivial
theorem dC : aJ Tryz.prog aT Tryz.f265.ntmps 6 (al (ah Tryz.f265) 3) := Als (L := dn) (b := dO) (m := []) bh trivial
theorem kV : aJ Tryz.prog aT Tryz.f265.ntmps 0 (al (ah Tryz.f265) 0) := Als (L := dk) (b := dL) (m := [(2, al (ah Tryz.f265) 1), (4, al (ah Tryz.f265) 2), (6, al (ah Tryz.f265) 3)]) bh ⟨dA, dB, dC, trivial⟩
theorem ll : AX dH := Afs (F := aT) (fn := Tryz.f265) (m := [(0, al (ah Tryz.f265) 0), (2, al (ah Tryz.f265) 1), (4, al (ah Tryz.f265) 2), (6, al (ah Tryz.f265) 3)]) bh Tryz.func265 ⟨kV, dA, dB, dC, trivial⟩
def eY : Lp := ⟨⟨[(0, .own ac 0), (1, DI), (4, .fn 236 [] []), (11, DI), (12, DI)], [.arr 39 ac false]⟩, (.exit 2), ⟨[(0, .own ac 0), (1, DI), (4, .fn 236 [] []), (11, DI), (12, DI)], [.arr 39 ac false]⟩, (.exit 80000002), ⟨[], []⟩⟩
def eZ : Lp := ⟨⟨[(0, .own ac 0), (1, DI), (4, .fn 236 [] []), (11, DI), (12, DI)], [.arr 39 ac false]⟩, (.exit 4), ⟨[(0, .own ac 0), (1, DI), (4, .fn 236 [] []), (11, DI), (12, DI)], [.arr 39 ac false]⟩, (.exit 80000004), ⟨[], []⟩⟩
def eX : Lp := ⟨⟨[(0, .own ac 0), (1, DI), (4, .fn 236 [] []), (11, DI), (12, DI)], [.arr 39 ac false]⟩, (.exit 0), ⟨[(11, DI)], [.arr 39 ac false]⟩, (.exit 80000000), ⟨[], []⟩⟩
def nE : Shape := ⟨[(0, .own ac 0), (1, DI), (2, DI), (3, DI), (4, .fn 236 [] [])], [.arr 39 ac false]⟩
def nO : Shape := ⟨[(0, DI)], [.arr 39 ac false]⟩
def fL : Ent := ⟨266, nE, nO, iQ⟩
def bw : Fx := bj Acx (av [hS]) (fun k st => bif Nat.beq k 2 then eY.go gC 1 st else bif Nat.beq k 4 then eZ.go gD 1 st else bif Nat.beq k 0 then eX.go gz 1 st else .fail) 1
theorem bJ : aC Tryz.prog (bw).Γ := ag ⟨ky, trivial⟩
theorem fu : aJ Tryz.prog bw Tryz.f266.ntmps 2 (al (ah Tryz.f266) 1) := Als (L := eY) (b := gu) (m := []) bJ trivial
theorem fv : aJ Tryz.prog bw Tryz.f266.ntmps 4 (al (ah Tryz.f266) 2) := Als (L := eZ) (b := gv) (m := []) bJ trivial
theorem nd : aJ Tryz.prog bw Tryz.f266.ntmps 0 (al (ah Tryz.f266) 0) := Als (L := eX) (b := gr) (m := [(2, al (ah Tryz.f266) 1), (4, al (ah Tryz.f266) 2)]) bJ ⟨fu, fv, trivial⟩
theorem oe : AX fL := Afs (F := bw) (fn := Tryz.f266) (m := [(0, al (ah Tryz.f266) 0), (2, al (ah Tryz.f266) 1), (4, al (ah Tryz.f266) 2)]) bJ Tryz.func266 ⟨nd, fu, fv, trivial⟩
def iy : Lp := ⟨⟨[(0, .own ac 0), (1, DI), (4, .fn 236 [] []), (12, DI), (13, DI)], [.arr 39 ac false]⟩, (.exit 0), ⟨[(0, .own ac 0), (1, DI), (4, .fn 236 [] []), (12, DI), (13, DI)], [.arr 39 ac false]⟩, (.exit 80000000), ⟨[], []⟩⟩
def iz : Lp := ⟨⟨[(0, .own ac 0), (1, DI), (4, .fn 236 [] []), (12, DI), (13, DI)], [.arr 39 ac false]⟩, (.exit 2), ⟨[(0, .own ac 0), (1, DI), (4, .fn 236 [] []), (12, DI), (13, DI)], [.arr 39 ac false]⟩, (.exit 80000002), ⟨[], []⟩⟩
def i5 : Lp := ⟨⟨[(0, .own ac 0), (1, DI), (4, .fn 236 [] []), (12, DI), (13, DI)], [.arr 39 ac false]⟩, (.exit 6), ⟨[(0, .own ac 0), (1, DI), (4, .fn 236 [] []), (12, DI), (13, DI)], [.arr 39 ac false]⟩, (.exit 80000006), ⟨[], []⟩⟩
def i6 : Lp := ⟨⟨[(0, .own ac 0), (1, DI), (4, .fn 236 [] []), (12, DI), (13, DI)], [.arr 39 ac false]⟩, (.exit 8), ⟨[(0, .own ac 0), (1, DI), (4, .fn 236 [] []), (12, DI), (13, DI)], [.arr 39 ac false]⟩, (.exit 80000008), ⟨[], []⟩⟩
def i4 : Lp := ⟨⟨[(0, .own ac 0), (1, DI), (4, .fn 236 [] []), (12, DI), (13, DI)], [.arr 39 ac false]⟩, (.exit 4), ⟨[(0, .own ac 0), (1, DI), (13, DI)], [.arr 39 ac false]⟩, (.exit 80000004), ⟨[], []⟩⟩
def rq : Shape := ⟨[(0, .own ac 0), (1, DI), (2, DI), (3, DI), (4, .fn 236 [] [])], [.arr 39 ac false]⟩
def ry : Shape := ⟨[(0, DI), (1, DB)], [.arr 39 ac false]⟩
def jq : Ent := ⟨267, rq, ry, kW⟩
def bf : Fx := bj Acx (av [hS]) (fun k st => bif Nat.beq k 0 then iy.go j7 1 st else bif Nat.beq k 2 then iz.go j8 1 st else bif Nat.beq k 6 then i5.go jA 1 st else bif Nat.beq k 8 then i6.go jB 1 st else bif Nat.beq k 4 then i4.go j9 1 st else .fail) 1
theorem bt : aC Tryz.prog (bf).Γ := ag ⟨ky, trivial⟩
theorem qZ : aJ Tryz.prog bf Tryz.f267.ntmps 0 (al (ah Tryz.f267) 0) := Als (L := iy) (b := j1) (m := []) bt trivial
theorem rc : aJ Tryz.prog bf Tryz.f267.ntmps 2 (al (ah Tryz.f267) 1) := Als (L := iz) (b := j3) (m := []) bt trivial
theorem jg : aJ Tryz.prog bf Tryz.f267.ntmps 6 (al (ah Tryz.f267) 3) := Als (L := i5) (b := j5) (m := []) bt trivial
theorem jh : aJ Tryz.prog bf Tryz.f267.ntmps 8 (al (ah Tryz.f267) 4) := Als (L := i6) (b := j6) (m := []) bt trivial
theorem re : aJ Tryz.prog bf Tryz.f267.ntmps 4 (al (ah Tryz.f267) 2) := Als (L := i4) (b := j4) (m := [(6, al (ah Tryz.f267) 3), (8, al (ah Tryz.f267) 4)]) bt ⟨jg, jh, trivial⟩
theorem rM : AX jq := Afs (F := bf) (fn := Tryz.f267) (m := [(0, al (ah Tryz.f267) 0), (2, al (ah Tryz.f267) 1), (4, al (ah Tryz.f267) 2), (6, al (ah Tryz.f267) 3), (8, al (ah Tryz.f267) 4)]) bt Tryz.func267 ⟨qZ, rc, re, jg, jh, trivial⟩
def aaH : Shape := ⟨[(0, DI)], []⟩
def aaJ : Shape := ⟨[(0, .dat (.int .u64))], []⟩
def rj : Ent := ⟨284, aaH, aaJ, uS⟩
def aaF : Fx := AF0 [vg]
theorem aaW : AX rj := Afs (F := aaF) (fn := Tryz.f284) (m := []) (ag ⟨abO, trivial⟩) Tryz.func284 trivial
def abB : Shape := ⟨[(0, .ptr 0 (.int .u64) 0 [])], [.box 315 (.int .u64) (.dat (.int .u64))]⟩
def abG : Shape := ⟨[(0, .dat (.int .u64))], [.box 315 (.int .u64) (.dat (.int .u64))]⟩
def sI : Ent := ⟨285, abB, abG, w6⟩
def abx : Fx := bj Acx (av []) (fun k st => .fail) 1
theorem ack : AX sI := Afs (F := abx) (fn := Tryz.f285) (m := []) (ag trivial) Tryz.func285 trivial

end D
/- Entries, by program. -/
open Go Go.X Go.Proofs D
namespace D
def fo : Lp := ⟨⟨[(0, .own ac 0), (1, DI), (8, DI), (9, .ptr 1 (.int .u64) 0 []), (10, .dat (.int .u64)), (11, DI)], [.arr 39 ac false, .box 315 (.int .u64) (.dat (.int .u64))]⟩, (.exit 0), ⟨[], [.arr 39 ac false]⟩, (.exit 80000000), ⟨[], []⟩⟩
def oE : Shape := ⟨[(0, .own ac 0), (1, DI), (2, DI), (3, .fn 236 [] [])], [.arr 39 ac false]⟩
def oG : Shape := ⟨[], [.arr 39 ac false]⟩
def gL : Ent := ⟨262, oE, oG, je⟩
def cH : Fx := bj Acx (av [rj, sI]) (fun k st => bif Nat.beq k 0 then fo.go gT 1 st else .fail) 1
theorem gS : aC Tryz.prog (cH).Γ := ag ⟨aaW, ack, trivial⟩
theorem nZ : aJ Tryz.prog cH Tryz.f262.ntmps 0 (al (ah Tryz.f262) 0) := Als (L := fo) (b := gR) (m := []) gS trivial
theorem oK : AX gL := Afs (F := cH) (fn := Tryz.f262) (m := [(0, al (ah Tryz.f262) 0)]) gS Tryz.func262 ⟨nZ, trivial⟩
def aL : Lp := ⟨⟨[(0, .own ac 0), (1, DI), (2, DI), (3, DI), (4, .fn 236 [] []), (10, DB), (11, DB), (12, DI), (13, DI), (75, DB)], [.arr 39 ac false]⟩, .nrm, ⟨[(0, .own ac 0), (1, DI), (2, DI), (3, DI), (4, .fn 236 [] []), (10, DB), (11, DB), (12, DI), (13, DI)], [.arr 39 ac false]⟩, .ret, ⟨[], [.arr 39 ac false]⟩⟩
def aM : Lp := ⟨⟨[(0, .own ac 0), (1, DI), (2, DI), (3, DI), (4, .fn 236 [] []), (10, DB), (11, DB), (12, DI), (13, DI), (97, DB)], [.arr 39 ac false]⟩, .nrm, ⟨[(0, .own ac 0), (1, DI), (2, DI), (3, DI), (4, .fn 236 [] []), (12, DI), (13, DI)], [.arr 39 ac false]⟩, (.exit 1), ⟨[(0, .own ac 0), (1, DI), (2, DI), (3, DI), (4, .fn 236 [] []), (10, DB), (11, DB)], [.arr 39 ac false]⟩⟩
def aS : Lp := ⟨⟨[(0, .own ac 0), (1, DI), (2, DI), (3, DI), (4, .fn 236 [] []), (12, DI), (13, DI)], [.arr 39 ac false]⟩, .nrm, ⟨[(0, .own ac 0), (1, DI), (2, DI), (3, DI), (4, .fn 236 [] []), (10, DB), (11, DB)], [.arr 39 ac false]⟩, (.exit 90000020), ⟨[], []⟩⟩
def aR : Lp := ⟨⟨[(0, .own ac 0), (1, DI), (2, DI), (3, DI), (4, .fn 236 [] []), (10, DB), (11, DB), (12, DI), (13, DI)], [.arr 39 ac false]⟩, .nrm, ⟨[(0, .own ac 0), (1, DI), (2, DI), (3, DI), (4, .fn 236 [] []), (10, DB), (11, DB)], [.arr 39 ac false]⟩, (.exit 1), ⟨[(0, .own ac 0), (1, DI), (2, DI), (3, DI), (4, .fn 236 [] []), (10, DB), (11, DB)], [.arr 39 ac false]⟩⟩
def bq : Lp := ⟨⟨[(0, .own ac 0), (1, DI), (2, DI), (3, DI), (4, .fn 236 [] []), (10, DB), (11, DB)], [.arr 39 ac false]⟩, .ret, ⟨[], [.arr 39 ac false]⟩, (.exit 80000000), ⟨[], []⟩⟩
def eG : Ent := ⟨251, bz, b9, lS⟩
def aA (slices_pdqsortCmpFunc_api_Span_r : (Int × Int × Int × (List aa) × Unit) -> Option ((List aa) × Unit)) : Fx := bj Acx (av [(aU slices_pdqsortCmpFunc_api_Span_r), hS, gM, jU, iv, hQ, dH, fL, jq, gL]) (fun k st => bif Nat.beq k 0 then bq.go (eI slices_pdqsortCmpFunc_api_Span_r) 1 st else .fail) 1
def aG (slices_pdqsortCmpFunc_api_Span_r : (Int × Int × Int × (List aa) × Unit) -> Option ((List aa) × Unit)) : ahG := [(100016, aL.go (aQ slices_pdqsortCmpFunc_api_Span_r) 1), (100018, aM.go (aW slices_pdqsortCmpFunc_api_Span_r) 1), (20, aS.go (bi slices_pdqsortCmpFunc_api_Span_r) 1), (17, aR.go (aX slices_pdqsortCmpFunc_api_Span_r) 1)]
theorem nf (slices_pdqsortCmpFunc_api_Span_r : (Int × Int × Int × (List aa) × Unit) -> Option ((List aa) × Unit)) (s : aL.S.ty.den) : @Eq (Option aL.Out) ((evK (aA slices_pdqsortCmpFunc_api_Span_r) (aG slices_pdqsortCmpFunc_api_Span_r) (bI (ah Tryz.f251) 100016) 1 (aL.S.enc s)).bind fun (e, st) => aL.out (aA slices_pdqsortCmpFunc_api_Span_r).m e st).val (aQ slices_pdqsortCmpFunc_api_Span_r s) := by kernel_rfl
theorem nh (slices_pdqsortCmpFunc_api_Span_r : (Int × Int × Int × (List aa) × Unit) -> Option ((List aa) × Unit)) (s : aM.S.ty.den) : @Eq (Option aM.Out) ((evK (aA slices_pdqsortCmpFunc_api_Span_r) (aG slices_pdqsortCmpFunc_api_Span_r) (bI (ah Tryz.f251) 100018) 1 (aM.S.enc s)).bind fun (e, st) => aM.out (aA slices_pdqsortCmpFunc_api_Span_r).m e st).val (aW slices_pdqsortCmpFunc_api_Span_r s) := by kernel_rfl
theorem qw (slices_pdqsortCmpFunc_api_Span_r : (Int × Int × Int × (List aa) × Unit) -> Option ((List aa) × Unit)) (s : aS.S.ty.den) : @Eq (Option aS.Out) ((evK (aA slices_pdqsortCmpFunc_api_Span_r) (aG slices_pdqsortCmpFunc_api_Span_r) (bI (ah Tryz.f251) 20) 1 (aS.S.enc s)).bind fun (e, st) => aS.out (aA slices_pdqsortCmpFunc_api_Span_r).m e st).val (bi slices_pdqsortCmpFunc_api_Span_r s) := by kernel_rfl
theorem qu (slices_pdqsortCmpFunc_api_Span_r : (Int × Int × Int × (List aa) × Unit) -> Option ((List aa) × Unit)) (s : aR.S.ty.den) : @Eq (Option aR.Out) ((evK (aA slices_pdqsortCmpFunc_api_Span_r) (aG slices_pdqsortCmpFunc_api_Span_r) (bI (ah Tryz.f251) 17) 1 (aR.S.enc s)).bind fun (e, st) => aR.out (aA slices_pdqsortCmpFunc_api_Span_r).m e st).val (aX slices_pdqsortCmpFunc_api_Span_r s) := by kernel_rfl
theorem rg (slices_pdqsortCmpFunc_api_Span_r : (Int × Int × Int × (List aa) × Unit) -> Option ((List aa) × Unit)) (s : bq.S.ty.den) : @Eq (Option (bq.S.ty.den ⊕ bq.Out)) (bq.bodyK (aA slices_pdqsortCmpFunc_api_Span_r) (aG slices_pdqsortCmpFunc_api_Span_r) (al (ah Tryz.f251) 0) 0 s).val (eH slices_pdqsortCmpFunc_api_Span_r s) := by kernel_rfl
theorem tT (slices_pdqsortCmpFunc_api_Span_r : (Int × Int × Int × (List aa) × Unit) -> Option ((List aa) × Unit)) (s : bz.ty.den) : @Eq (Option b9.ty.den) (aoI (aA slices_pdqsortCmpFunc_api_Span_r) (aG slices_pdqsortCmpFunc_api_Span_r) Tryz.f251 bz b9 s).val (dU slices_pdqsortCmpFunc_api_Span_r s) := by kernel_rfl
theorem bA (slices_pdqsortCmpFunc_api_Span_r : (Int × Int × Int × (List aa) × Unit) -> Option ((List aa) × Unit)) (slices_pdqsortCmpFunc_api_Span_r_ok : EntOK Tryz.prog (aU slices_pdqsortCmpFunc_api_Span_r)) : aC Tryz.prog (aA slices_pdqsortCmpFunc_api_Span_r).Γ := ag ⟨(slices_pdqsortCmpFunc_api_Span_r_ok.x (by kernel_rfl)), ky, oL, sA, qt, pH, ll, oe, rM, oK, trivial⟩
theorem ng (slices_pdqsortCmpFunc_api_Span_r : (Int × Int × Int × (List aa) × Unit) -> Option ((List aa) × Unit)) (slices_pdqsortCmpFunc_api_Span_r_ok : EntOK Tryz.prog (aU slices_pdqsortCmpFunc_api_Span_r)) : qD Tryz.prog (aA slices_pdqsortCmpFunc_api_Span_r) Tryz.f251.ntmps (aL.go (aQ slices_pdqsortCmpFunc_api_Span_r) 1) (bI (ah Tryz.f251) 100016) :=
  fj gZ (bA slices_pdqsortCmpFunc_api_Span_r slices_pdqsortCmpFunc_api_Span_r_ok) bC (L := aL) (k := 1) (f := aQ slices_pdqsortCmpFunc_api_Span_r) (C := (aG slices_pdqsortCmpFunc_api_Span_r)) (l := []) (m := []) (by kernel_rfl) trivial (by kernel_rfl) trivial (by kernel_rfl) (bl _ (by kernel_rfl)) (nf slices_pdqsortCmpFunc_api_Span_r)
theorem ni (slices_pdqsortCmpFunc_api_Span_r : (Int × Int × Int × (List aa) × Unit) -> Option ((List aa) × Unit)) (slices_pdqsortCmpFunc_api_Span_r_ok : EntOK Tryz.prog (aU slices_pdqsortCmpFunc_api_Span_r)) : qD Tryz.prog (aA slices_pdqsortCmpFunc_api_Span_r) Tryz.f251.ntmps (aM.go (aW slices_pdqsortCmpFunc_api_Span_r) 1) (bI (ah Tryz.f251) 100018) :=
  fj gZ (bA slices_pdqsortCmpFunc_api_Span_r slices_pdqsortCmpFunc_api_Span_r_ok) bC (L := aM) (k := 1) (f := aW slices_pdqsortCmpFunc_api_Span_r) (C := (aG slices_pdqsortCmpFunc_api_Span_r)) (l := []) (m := []) (by kernel_rfl) trivial (by kernel_rfl) trivial (by kernel_rfl) (bl _ (by kernel_rfl)) (nh slices_pdqsortCmpFunc_api_Span_r)
theorem qx (slices_pdqsortCmpFunc_api_Span_r : (Int × Int × Int × (List aa) × Unit) -> Option ((List aa) × Unit)) (slices_pdqsortCmpFunc_api_Span_r_ok : EntOK Tryz.prog (aU slices_pdqsortCmpFunc_api_Span_r)) : qD Tryz.prog (aA slices_pdqsortCmpFunc_api_Span_r) Tryz.f251.ntmps (aS.go (bi slices_pdqsortCmpFunc_api_Span_r) 1) (bI (ah Tryz.f251) 20) :=
  fj gZ (bA slices_pdqsortCmpFunc_api_Span_r slices_pdqsortCmpFunc_api_Span_r_ok) bC (L := aS) (k := 1) (f := bi slices_pdqsortCmpFunc_api_Span_r) (C := (aG slices_pdqsortCmpFunc_api_Span_r)) (l := []) (m := []) (by kernel_rfl) trivial (by kernel_rfl) trivial (by kernel_rfl) (bl _ (by kernel_rfl)) (qw slices_pdqsortCmpFunc_api_Span_r)
theorem qv (slices_pdqsortCmpFunc_api_Span_r : (Int × Int × Int × (List aa) × Unit) -> Option ((List aa) × Unit)) (slices_pdqsortCmpFunc_api_Span_r_ok : EntOK Tryz.prog (aU slices_pdqsortCmpFunc_api_Span_r)) : qD Tryz.prog (aA slices_pdqsortCmpFunc_api_Span_r) Tryz.f251.ntmps (aR.go (aX slices_pdqsortCmpFunc_api_Span_r) 1) (bI (ah Tryz.f251) 17) :=
  fj gZ (bA slices_pdqsortCmpFunc_api_Span_r slices_pdqsortCmpFunc_api_Span_r_ok) bC (L := aR) (k := 1) (f := aX slices_pdqsortCmpFunc_api_Span_r) (C := (aG slices_pdqsortCmpFunc_api_Span_r)) (l := []) (m := [(aM.go (aW slices_pdqsortCmpFunc_api_Span_r) 1, bI (ah Tryz.f251) 100018), (aS.go (bi slices_pdqsortCmpFunc_api_Span_r) 1, bI (ah Tryz.f251) 20)]) (by kernel_rfl) trivial (by kernel_rfl) ⟨ni slices_pdqsortCmpFunc_api_Span_r slices_pdqsortCmpFunc_api_Span_r_ok, qx slices_pdqsortCmpFunc_api_Span_r slices_pdqsortCmpFunc_api_Span_r_ok, trivial⟩ (by kernel_rfl) (bl _ (by kernel_rfl)) (qu slices_pdqsortCmpFunc_api_Span_r)
theorem sB (slices_pdqsortCmpFunc_api_Span_r : (Int × Int × Int × (List aa) × Unit) -> Option ((List aa) × Unit)) (slices_pdqsortCmpFunc_api_Span_r_ok : EntOK Tryz.prog (aU slices_pdqsortCmpFunc_api_Span_r)) : aJ Tryz.prog (aA slices_pdqsortCmpFunc_api_Span_r) Tryz.f251.ntmps 0 (al (ah Tryz.f251) 0) :=
  a1f gZ (bA slices_pdqsortCmpFunc_api_Span_r slices_pdqsortCmpFunc_api_Span_r_ok) bC (L := bq) (f := eI slices_pdqsortCmpFunc_api_Span_r) (b := eH slices_pdqsortCmpFunc_api_Span_r) (C := (aG slices_pdqsortCmpFunc_api_Span_r)) (l := []) (m := [(aL.go (aQ slices_pdqsortCmpFunc_api_Span_r) 1, bI (ah Tryz.f251) 100016), (aR.go (aX slices_pdqsortCmpFunc_api_Span_r) 1, bI (ah Tryz.f251) 17)]) (fun _ => rfl) (by kernel_rfl) (by kernel_rfl) trivial (by kernel_rfl) ⟨ng slices_pdqsortCmpFunc_api_Span_r slices_pdqsortCmpFunc_api_Span_r_ok, qv slices_pdqsortCmpFunc_api_Span_r slices_pdqsortCmpFunc_api_Span_r_ok, trivial⟩ (by kernel_rfl) (bl _ (by kernel_rfl)) (rg slices_pdqsortCmpFunc_api_Span_r)
theorem pG (slices_pdqsortCmpFunc_api_Span_r : (Int × Int × Int × (List aa) × Unit) -> Option ((List aa) × Unit)) (slices_pdqsortCmpFunc_api_Span_r_ok : EntOK Tryz.prog (aU slices_pdqsortCmpFunc_api_Span_r)) : EntOK Tryz.prog ⟨251, bz, b9, dU slices_pdqsortCmpFunc_api_Span_r⟩ :=
  yG (C := (aG slices_pdqsortCmpFunc_api_Span_r)) (F := (aA slices_pdqsortCmpFunc_api_Span_r)) gZ (bA slices_pdqsortCmpFunc_api_Span_r slices_pdqsortCmpFunc_api_Span_r_ok) bC (fn := Tryz.f251) (l := [(0, al (ah Tryz.f251) 0)]) (m := []) Tryz.func251 (by kernel_rfl) (by kernel_rfl) (by kernel_rfl) ⟨sB slices_pdqsortCmpFunc_api_Span_r slices_pdqsortCmpFunc_api_Span_r_ok, trivial⟩ (by kernel_rfl) trivial (bl _ (by kernel_rfl)) (by kernel_rfl) (tT slices_pdqsortCmpFunc_api_Span_r)
theorem ik : ∀ n, EntOK Tryz.prog ⟨251, bz, b9, dT n⟩
  | 0 => alD
  | n + 1 => pG _ (ik n)
theorem tU : EntOK Tryz.prog eG := ik aqr
theorem tV : AX eG := (tU).x (by kernel_rfl)
def qM : Shape := ⟨[(0, .own ac 0), (1, .fn 236 [] [])], [.arr 39 ac false]⟩
def qP : Shape := ⟨[], [.arr 39 ac false]⟩
def iX : Ent := ⟨235, qM, qP, kF⟩
def qK : Fx := bj Acx (av [vg, eG]) (fun k st => .fail) 1
theorem qY : AX iX := Afs (F := qK) (fn := Tryz.f235) (m := []) (ag ⟨abO, tV, trivial⟩) Tryz.func235 trivial
def ae6 : Shape := ⟨[(0, DS)], []⟩
def aeA : Shape := ⟨[(0, DB)], []⟩
def uP : Ent := ⟨230, ae6, aeA, sx⟩
def ae3 : Fx := AF0 []
theorem aeE : AX uP := Afs (F := ae3) (fn := Tryz.f230) (m := []) (ag trivial) Tryz.func230 trivial
def abA : Shape := ⟨[(0, DS), (1, DS)], []⟩
def abF : Shape := ⟨[(0, DI)], []⟩
def sH : Ent := ⟨205, abA, abF, wo⟩
def abw : Fx := AF0 [uP]
theorem abK : AX sH := Afs (F := abw) (fn := Tryz.f205) (m := []) (ag ⟨aeE, trivial⟩) Tryz.func205 trivial
def ahA : Shape := ⟨[(0, DS), (1, DS)], []⟩
def ahF : Shape := ⟨[(0, DI)], []⟩
def lA : Ent := ⟨161, ahA, ahF, qy⟩
def ah5 : Fx := AF0 [sH]
theorem rh : AX lA := Afs (F := ah5) (fn := Tryz.f161) (m := []) (ag ⟨abK, trivial⟩) Tryz.func161 trivial
def af3 : Lp := ⟨⟨[(4, .own ac 0), (13, .own ac 1), (14, DI), (15, DI)], [.arr 39 ac false, .arr 39 ac false]⟩, (.exit 0), ⟨[(4, .own ac 0)], [.arr 39 ac false]⟩, (.exit 80000000), ⟨[], []⟩⟩
def axP : Shape := ⟨[(0, .dat (.list ac))], []⟩
def ayo : Shape := ⟨[(0, .own ac 0)], [.arr 39 ac false]⟩
def xv : Ent := ⟨213, axP, ayo, acl⟩
def ac7 : Fx := bj Acx (av [eE, hO, iX, lA]) (fun k st => bif Nat.beq k 0 then af3.go am5 0 st else .fail) 0
theorem am4 : aC Tryz.prog (ac7).Γ := ag ⟨tQ, pC, qY, rh, trivial⟩
theorem awE : aJ Tryz.prog ac7 Tryz.f213.ntmps 0 (al (ah Tryz.f213) 0) := Als (L := af3) (b := am3) (m := []) am4 trivial
theorem ads : AX xv := Afs (F := ac7) (fn := Tryz.f213) (m := [(0, al (ah Tryz.f213) 0)]) am4 Tryz.func213 ⟨awE, trivial⟩
def az0 : Shape := ⟨[(0, DS)], []⟩
def az7 : Shape := ⟨[(0, .dat ac)], []⟩
def vX : Ent := ⟨216, az0, az7, agG⟩
def azr : Fx := AF0 []
theorem aaj : AX vX := Afs (F := azr) (fn := Tryz.f216) (m := []) (ag trivial) Tryz.func216 trivial
def af4 : Lp := ⟨⟨[(3, .own ac 0), (4, DS), (7, .dat (.list ac)), (8, DI), (9, DI)], [.arr 39 ac false]⟩, .ret, ⟨[(2, .own ac 0)], [.arr 39 ac false]⟩, (.exit 0), ⟨[(3, .own ac 0), (4, DS)], [.arr 39 ac false]⟩⟩
def axQ : Shape := ⟨[(0, .dat (.list ac))], []⟩
def ayp : Shape := ⟨[(0, .own ac 0)], [.arr 39 ac false]⟩
def akN : Ent := ⟨238, axQ, ayp, axf⟩
def ac8 : Fx := bj Acx (av []) (fun k st => bif Nat.beq k 0 then af4.go am8 0 st else .fail) 0
theorem am7 : aC Tryz.prog (ac8).Γ := ag trivial
theorem awG : aJ Tryz.prog ac8 Tryz.f238.ntmps 0 (al (ah Tryz.f238) 0) := Als (L := af4) (b := am6) (m := []) am7 trivial
theorem aza : AX akN := Afs (F := ac8) (fn := Tryz.f238) (m := [(0, al (ah Tryz.f238) 0)]) am7 Tryz.func238 ⟨awG, trivial⟩
def ix : Lp := ⟨⟨[(0, .dat (.list .str)), (1, .fn 161 [] []), (5, DS), (6, DI)], []⟩, (.exit 0), ⟨[(5, DS)], []⟩, (.exit 80000000), ⟨[], []⟩⟩
def rp : Shape := ⟨[(0, .dat (.list .str)), (1, .fn 161 [] [])], []⟩
def rx : Shape := ⟨[(0, DS)], []⟩
def jp : Ent := ⟨160, rp, rx, kT⟩
def dK : Fx := bj Acx (av [lA]) (fun k st => bif Nat.beq k 0 then ix.go j0 0 st else .fail) 0
theorem jz : aC Tryz.prog (dK).Γ := ag ⟨rh, trivial⟩
theorem qX : aJ Tryz.prog dK Tryz.f160.ntmps 0 (al (ah Tryz.f160) 0) := Als (L := ix) (b := jy) (m := []) jz trivial
theorem rJ : AX jp := Afs (F := dK) (fn := Tryz.f160) (m := [(0, al (ah Tryz.f160) 0)]) jz Tryz.func160 ⟨qX, trivial⟩
def avw : Shape := ⟨[(0, .dat (.list .str))], []⟩
def avV : Shape := ⟨[(0, DS)], []⟩
def air : Ent := ⟨117, avw, avV, aud⟩
def auM : Fx := AF0 [jp]
theorem awH : AX air := Afs (F := auM) (fn := Tryz.f117) (m := []) (ag ⟨rJ, trivial⟩) Tryz.func117 trivial
def axO : Shape := ⟨[(0, .dat ac), (1, .dat ac)], []⟩
def ayn : Shape := ⟨[(0, .dat ac)], []⟩
def tX : Ent := ⟨75, axO, ayn, xU⟩
def ax1 : Fx := AF0 [gY, air]
theorem xN : AX tX := Afs (F := ax1) (fn := Tryz.f75) (m := []) (ag ⟨jD, awH, trivial⟩) Tryz.func75 trivial
def adX : Lp := ⟨⟨[(0, .dat (.list ac)), (5, .own ac 0), (7, .ptr 1 ac 0 []), (12, .own ac 2), (13, DI), (14, DI), (18, .dat (.list ac)), (19, DI), (20, DI)], [.arr 39 ac false, .box 39 ac (.dat ac), .arr 39 ac false]⟩, (.exit 2), ⟨[(0, .dat (.list ac)), (5, .own ac 0), (12, .own ac 1), (13, DI), (14, DI)], [.arr 39 ac false, .arr 39 ac false]⟩, (.exit 80000002), ⟨[], []⟩⟩
def adW : Lp := ⟨⟨[(0, .dat (.list ac)), (5, .own ac 0), (12, .own ac 1), (13, DI), (14, DI)], [.arr 39 ac false, .arr 39 ac false]⟩, (.exit 0), ⟨[(5, .own ac 0)], [.arr 39 ac false]⟩, (.exit 80000000), ⟨[], []⟩⟩
def avt : Shape := ⟨[(0, .dat (.list ac)), (1, .dat (.list ac))], []⟩
def avS : Shape := ⟨[(0, .own ac 0)], [.arr 39 ac false]⟩
def aip : Ent := ⟨215, avt, avS, atZ⟩
def vK : Fx := bj Acx (av [xv, akN, tX]) (fun k st => bif Nat.beq k 2 then adX.go ajs 0 st else bif Nat.beq k 0 then adW.go ajr 0 st else .fail) 0
theorem aaX : aC Tryz.prog (vK).Γ := ag ⟨ads, aza, xN, trivial⟩
theorem agF : aJ Tryz.prog vK Tryz.f215.ntmps 2 (al (ah Tryz.f215) 1) := Als (L := adX) (b := ajq) (m := []) aaX trivial
theorem aua : aJ Tryz.prog vK Tryz.f215.ntmps 0 (al (ah Tryz.f215) 0) := Als (L := adW) (b := ajp) (m := [(2, al (ah Tryz.f215) 1)]) aaX ⟨agF, trivial⟩
theorem awD : AX aip := Afs (F := vK) (fn := Tryz.f215) (m := [(0, al (ah Tryz.f215) 0), (2, al (ah Tryz.f215) 1)]) aaX Tryz.func215 ⟨aua, agF, trivial⟩
def anv : Shape := ⟨[(0, .dat (.list ac)), (1, .ptr 0 (.list ac) 0 [])], [.box 62 (.list ac) (.own ac 1), .arr 39 ac false]⟩
def anK : Shape := ⟨[(0, .own ac 2)], [.box 62 (.list ac) (.own ac 1), .arr 39 ac true, .arr 39 ac false]⟩
def abq : Ent := ⟨214, anv, anK, vS⟩
def amW : Fx := bj Acx (av [aip]) (fun k st => .fail) 2
theorem ao6 : AX abq := Afs (F := amW) (fn := Tryz.f214) (m := []) (ag ⟨awD, trivial⟩) Tryz.func214 trivial
def ab6 : Lp := ⟨⟨[(0, DS), (2, .ptr 0 ac 0 []), (3, .own (.int .u8) 1)], [.box 39 ac (.agg [DS, DS]), .arr 5 (.int .u8) false]⟩, (.exit 0), ⟨[(0, DS), (2, .ptr 0 ac 0 []), (3, .own (.int .u8) 1)], [.box 39 ac (.agg [DS, DS]), .arr 5 (.int .u8) false]⟩, (.exit 80000000), ⟨[], []⟩⟩
def arJ : Shape := ⟨[(0, DS)], []⟩
def asn : Shape := ⟨[(0, .dat ac)], []⟩
def dI : Ent := ⟨217, arJ, asn, dD⟩
def yv : Fx := bj Acx (av []) (fun k st => bif Nat.beq k 0 then ab6.go agJ 0 st else .fail) 0
theorem agI : aC Tryz.prog (yv).Γ := ag trivial
theorem aqG : aJ Tryz.prog yv Tryz.f217.ntmps 0 (al (ah Tryz.f217) 0) := Als (L := ab6) (b := agH) (m := []) agI trivial
theorem fg : AX dI := Afs (F := yv) (fn := Tryz.f217) (m := [(0, al (ah Tryz.f217) 0)]) agI Tryz.func217 ⟨aqG, trivial⟩
def arQ : Shape := ⟨[(0, .dat ac), (1, DS), (2, DS)], []⟩
def asv : Shape := ⟨[(0, .dat ac)], []⟩
def afo : Ent := ⟨218, arQ, asv, apq⟩
def arw : Fx := AF0 [vI, dI]
theorem auq : AX afo := Afs (F := arw) (fn := Tryz.f218) (m := []) (ag ⟨aaY, fg, trivial⟩) Tryz.func218 trivial
def sN : Lp := ⟨⟨[(5, .ptr 1 (.list ac) 0 []), (7, .ptr 3 am 0 []), (9, .ptr 4 ac 0 []), (11, .own ac 5), (60, .own ac 2), (61, DI), (62, DI)], [.loop 1016800 [(5, .ptr 1 (.list ac) 0 [])], .box 62 (.list ac) (.own ac 2), .arr 39 ac true, .box 41 am (.dat am), .box 39 ac (.dat ac), .arr 39 ac false]⟩, (.exit 3), ⟨[(5, .ptr 1 (.list ac) 0 []), (11, .own ac 3)], [.loop 1016800 [(5, .ptr 1 (.list ac) 0 [])], .box 62 (.list ac) (.own ac 2), .arr 39 ac true, .arr 39 ac false]⟩, (.exit 80000003), ⟨[], []⟩⟩
def nF : Shape := ⟨[(0, .yld 1016800 0), (1, DI), (2, .dat am)], [.loop 1016800 [(5, .ptr 1 (.list ac) 0 [])], .box 62 (.list ac) (.own ac 2), .arr 39 ac false]⟩
def nP : Shape := ⟨[(0, DB)], [.loop 1016800 [(5, .ptr 1 (.list ac) 0 [])], .box 62 (.list ac) (.own ac 3), .gone, .arr 39 ac false]⟩
def uQ : Ent := ⟨1016800, nF, nP, sF⟩
def kB : Fx := bj Acx (av [gY, xv, vX, tX, abq, dI, afo]) (fun k st => bif Nat.beq k 3 then sN.go ve 3 st else .fail) 3
theorem aeP (s : nF.ty.den) : @Eq (Option nP.ty.den) (aoJ kB evC 1016800 (acY Tryz.f168 0) nF nP s).val (sF s) := by kernel_rfl
theorem uY : aC Tryz.prog (kB).Γ := ag ⟨jD, ads, aaj, xN, ao6, fg, auq, trivial⟩
theorem ad3 : aJ Tryz.prog kB Tryz.f168.ntmps 3 (al (a4I Tryz.f168 0) 0) := Als (L := sN) (b := uX) (m := []) uY trivial
theorem aeQ : AX uQ :=
  adq (F := kB) (c := acY Tryz.f168 0) gZ uY bC (by kernel_rfl) (by kernel_rfl) (by kernel_rfl) (m := [(3, al (a4I Tryz.f168 0) 0)]) (by kernel_rfl) ⟨ad3, trivial⟩ (by kernel_rfl) aeP
def eQ : Lp := ⟨⟨[(0, .yld 1016800 0), (1, .ptr 1 (.list am) 0 []), (3, DI)], [.loop 1016800 [(5, .ptr 2 (.list ac) 0 [])], .box 83 (.list am) (.dat (.list am)), .box 62 (.list ac) (.own ac 4), .gone, .arr 39 ac false]⟩, .ret, ⟨[], [.loop 1016800 [(5, .ptr 2 (.list ac) 0 [])], .box 83 (.list am) (.dat (.list am)), .box 62 (.list ac) (.own ac 4), .gone, .arr 39 ac false]⟩, (.exit 0), ⟨[], [.loop 1016800 [(5, .ptr 2 (.list ac) 0 [])], .box 83 (.list am) (.dat (.list am)), .box 62 (.list ac) (.own ac 4), .gone, .arr 39 ac false]⟩⟩
def n6 : Shape := ⟨[(0, .yld 1016800 0), (1, .ptr 1 (.list am) 0 [])], [.loop 1016800 [(5, .ptr 2 (.list ac) 0 [])], .box 83 (.list am) (.dat (.list am)), .box 62 (.list ac) (.own ac 3), .arr 39 ac false]⟩
def nG : Shape := ⟨[], [.loop 1016800 [(5, .ptr 2 (.list ac) 0 [])], .box 83 (.list am) (.dat (.list am)), .box 62 (.list ac) (.own ac 4), .gone, .arr 39 ac false]⟩
def fD : Ent := ⟨209, n6, nG, i9⟩
def cu : Fx := bj Acx (av [uQ]) (fun k st => bif Nat.beq k 0 then eQ.go fR 4 st else .fail) 4
theorem fQ : aC Tryz.prog (cu).Γ := ag ⟨aeQ, trivial⟩
theorem mV : aJ Tryz.prog cu Tryz.f209.ntmps 0 (al (ah Tryz.f209) 0) := Als (L := eQ) (b := fP) (m := []) fQ trivial
theorem nR : AX fD := Afs (F := cu) (fn := Tryz.f209) (m := [(0, al (ah Tryz.f209) 0)]) fQ Tryz.func209 ⟨mV, trivial⟩
def y7 : Shape := ⟨[(0, .dat ac), (1, .dat (.list am))], []⟩
def y9 : Shape := ⟨[(0, .own ac 0)], [.arr 39 ac false]⟩
def yf : Ent := ⟨168, y7, y9, agX⟩
def afu : Fx := { cx := Acx, Γ := av [dW, xv, fD], Λ := fun k st => .fail, keep := fun _ => none, m := 0, rfs := fun k => bif Nat.beq k 3 then some 1016800 else none, its := [209] }
theorem aum (s : y7.ty.den) : @Eq (Option y9.ty.den) (aoc afu Tryz.f168 y7 y9 s).val (agX s) := by kernel_rfl
theorem aun : EntOK Tryz.prog yf :=
  sR (F := afu) gZ (ag ⟨ke, ads, nR, trivial⟩) bC (fn := Tryz.f168) (m := []) Tryz.func168 (by kernel_rfl) (by kernel_rfl) (by kernel_rfl) trivial (amz (m := [(3, acY Tryz.f168 0)]) (its := [209]) (by kernel_rfl) ⟨atS (Y := 1016800) (by kernel_rfl) (by kernel_rfl), trivial⟩ (by kernel_rfl) ⟨⟨_, Tryz.func209, by kernel_rfl, by kernel_rfl⟩, trivial⟩) (by kernel_rfl) aum
theorem auo : AX yf := (aun).x (by kernel_rfl)
def adY : Lp := ⟨⟨[(2, .ptr 0 ac 0 []), (5, .own ac 1), (6, DS), (9, .dat (.list .str)), (10, DI), (11, DI)], [.box 39 ac (.dat ac), .arr 39 ac false]⟩, (.exit 0), ⟨[(2, .ptr 0 ac 0 []), (5, .own ac 1), (6, DS)], [.box 39 ac (.dat ac), .arr 39 ac false]⟩, (.exit 80000000), ⟨[], []⟩⟩
def avv : Shape := ⟨[(0, .dat ac), (1, .dat (.list .str))], []⟩
def avU : Shape := ⟨[(0, .own ac 0)], [.arr 39 ac false]⟩
def aiq : Ent := ⟨114, avv, avU, aub⟩
def aaG : Fx := bj Acx (av [tX]) (fun k st => bif Nat.beq k 0 then adY.go ajv 0 st else .fail) 0
theorem aju : aC Tryz.prog (aaG).Γ := ag ⟨xN, trivial⟩
theorem auc : aJ Tryz.prog aaG Tryz.f114.ntmps 0 (al (ah Tryz.f114) 0) := Als (L := adY) (b := ajt) (m := []) aju trivial
theorem awF : AX aiq := Afs (F := aaG) (fn := Tryz.f114) (m := [(0, al (ah Tryz.f114) 0)]) aju Tryz.func114 ⟨auc, trivial⟩
def auU : Shape := ⟨[(0, .dat a8), (1, .dat ac)], []⟩
def av3 : Shape := ⟨[(0, .own ac 0)], [.arr 39 ac false]⟩
def aav : Ent := ⟨67, auU, av3, akt⟩
def au5 : Fx := AF0 [aiq]
theorem aiH : AX aav := Afs (F := au5) (fn := Tryz.f67) (m := []) (ag ⟨awF, trivial⟩) Tryz.func67 trivial
def abD : Shape := ⟨[(0, .dat ac), (1, .ptr 0 ac 0 [])], [.box 39 ac (.dat ac)]⟩
def abI : Shape := ⟨[(0, DB)], [.box 39 ac (.dat ac)]⟩
def sK : Ent := ⟨169, abD, abI, wJ⟩
def aby : Fx := bj Acx (av [gY, tX]) (fun k st => .fail) 1
theorem acp : AX sK := Afs (F := aby) (fn := Tryz.f169) (m := []) (ag ⟨jD, xN, trivial⟩) Tryz.func169 trivial
def tC : Shape := ⟨[(0, .dat (.list af))], []⟩
def tI : Shape := ⟨[(0, .own af 0)], [.arr 58 af false]⟩
def bx : Ent := ⟨171, tC, tI, bY⟩
def tu : Fx := bj Acx (av []) (fun _ _ => .fail) 0
theorem tO : EntOK Tryz.prog bx :=
  awM (F := tu) gZ (ag trivial) bC (fn := Tryz.f171) Tryz.func171 (by kernel_rfl) (by kernel_rfl) (by kernel_rfl) (by kernel_rfl) (by kernel_rfl) (fun s => (decide ((List.length ([] : List ae) + List.length s.1) * 40 <= aw))) (fun s => (s.1, ())) (fun s => ([], ())) (fun s => List.length s.1) (fun s => rfl) (fun s => by kernel_rfl) (fun s => by kernel_rfl) (fun s h => congrArg (fun l => (l, ())) (List.eq_nil_of_length_eq_zero h).symm)
theorem cl : AX bx := tO.x (by kernel_rfl)
def sj : Shape := ⟨[(0, .own af 0), (1, DI), (2, .own af 1)], [.arr 58 af false, .arr 58 af false]⟩
def su : Shape := ⟨[(0, .own af 2)], [.gone, .arr 58 af false, .arr 58 af false]⟩
def dX : Ent := ⟨327, sj, su, lw⟩
def jX : Fx := bj Acx (a2J 328 (ovG af) (av [])) (fun _ _ => .fail) 2
theorem s7 : aC Tryz.prog jX.Γ := as0 (a42 gZ (T := 64) (T2 := 4) (t := af) (by kernel_rfl) (by kernel_rfl) (by kernel_rfl) Tryz.func328 (by kernel_rfl) (by kernel_rfl) (by kernel_rfl) (by kernel_rfl)) (ag trivial)
theorem s8 : EntOK Tryz.prog dX :=
  a0Z (F := jX) (e := 58) (t := af) (bytes := 40) gZ s7 bC (by kernel_rfl) (by kernel_rfl) (fn := Tryz.f327) Tryz.func327 (by kernel_rfl) (by kernel_rfl) (by kernel_rfl) (by kernel_rfl) (by kernel_rfl) rfl (fun i xs ys => by kernel_rfl) (fun i xs z ys => by kernel_rfl)
theorem s9 : AX dX := s8.x (by kernel_rfl)
def axS : Shape := ⟨[(0, .dat (.list af)), (1, .dat af)], []⟩
def ayr : Shape := ⟨[(0, .own af 0)], [.arr 58 af false]⟩
def akP : Ent := ⟨325, axS, ayr, axl⟩
def ax3 : Fx := AF0 [tY, bx, dX]
theorem azd : AX akP := Afs (F := ax3) (fn := Tryz.f325) (m := []) (ag ⟨zp, cl, s9, trivial⟩) Tryz.func325 trivial
def ank : Shape := ⟨[(0, .dat am), (1, .dat (.list af))], []⟩
def an9 : Shape := ⟨[(0, .own af 0)], [.arr 58 af false]⟩
def pV : Ent := ⟨319, ank, an9, aiE⟩
def amN : Fx := AF0 [akP]
theorem abV : AX pV := Afs (F := amN) (fn := Tryz.f319) (m := []) (ag ⟨azd, trivial⟩) Tryz.func319 trivial
def apS : Shape := ⟨[(0, .dat (.list af)), (1, .dat ac)], []⟩
def aql : Shape := ⟨[(0, DI), (1, DI)], []⟩
def wQ : Ent := ⟨340, apS, aql, ady⟩
def ap9 : Fx := AF0 [tY, gY]
theorem aez : AX wQ := Afs (F := ap9) (fn := Tryz.f340) (m := []) (ag ⟨zp, jD, trivial⟩) Tryz.func340 trivial
def uh : Shape := ⟨[(0, .nils 58 af), (1, DI)], []⟩
def uk : Shape := ⟨[(0, .own af 0)], [.arr 58 af false]⟩
def kJ : Ent := ⟨342, uh, uk, m9⟩
def ub : Fx := AF0 []
theorem uH : AX kJ := Afs (F := ub) (fn := Tryz.f342) (m := []) (ag trivial) Tryz.func342 trivial

end D
/- Entries, by program. -/
open Go Go.X Go.Proofs D
namespace D
def iY : Lp := ⟨⟨[(0, .dat (.list (.list af))), (3, DI), (9, .dat (.list (.list af))), (10, DI), (11, DI)], []⟩, (.exit 0), ⟨[(0, .dat (.list (.list af))), (3, DI)], []⟩, (.exit 80000000), ⟨[], []⟩⟩
def iZ : Lp := ⟨⟨[(6, .own af 0), (25, .dat (.list (.list af))), (26, DI), (27, DI)], [.arr 58 af false]⟩, (.exit 2), ⟨[(6, .own af 0)], [.arr 58 af false]⟩, (.exit 80000002), ⟨[], []⟩⟩
def si : Shape := ⟨[(0, .dat (.list (.list af)))], []⟩
def sq : Shape := ⟨[(0, .own af 0)], [.arr 58 af false]⟩
def jT : Ent := ⟨341, si, sq, lu⟩
def cd : Fx := bj Acx (av [kJ]) (fun k st => bif Nat.beq k 0 then iY.go kh 0 st else bif Nat.beq k 2 then iZ.go ki 0 st else .fail) 0
theorem eh : aC Tryz.prog (cd).Γ := ag ⟨uH, trivial⟩
theorem rG : aJ Tryz.prog cd Tryz.f341.ntmps 0 (al (ah Tryz.f341) 0) := Als (L := iY) (b := kf) (m := []) eh trivial
theorem rH : aJ Tryz.prog cd Tryz.f341.ntmps 2 (al (ah Tryz.f341) 1) := Als (L := iZ) (b := kg) (m := []) eh trivial
theorem s6 : AX jT := Afs (F := cd) (fn := Tryz.f341) (m := [(0, al (ah Tryz.f341) 0), (2, al (ah Tryz.f341) 1)]) eh Tryz.func341 ⟨rG, rH, trivial⟩
def avx : Shape := ⟨[(0, .dat (.list af)), (1, .dat ac)], []⟩
def avW : Shape := ⟨[(0, .own af 0)], [.arr 58 af false]⟩
def rl : Ent := ⟨339, avx, avW, zo⟩
def auN : Fx := AF0 [wQ, jT]
theorem vR : AX rl := Afs (F := auN) (fn := Tryz.f339) (m := []) (ag ⟨aez, s6, trivial⟩) Tryz.func339 trivial
def axR : Shape := ⟨[(0, .dat (.list af)), (1, DS)], []⟩
def ayq : Shape := ⟨[(0, .own af 0)], [.arr 58 af false]⟩
def akO : Ent := ⟨338, axR, ayq, axk⟩
def ax2 : Fx := AF0 [vX, rl]
theorem azc : AX akO := Afs (F := ax2) (fn := Tryz.f338) (m := []) (ag ⟨aaj, vR, trivial⟩) Tryz.func338 trivial
def anf : Shape := ⟨[(0, .dat am), (1, .dat (.list af))], []⟩
def an4 : Shape := ⟨[(0, .own af 0)], [.arr 58 af false]⟩
def pQ : Ent := ⟨332, anf, an4, ai9⟩
def amI : Fx := AF0 [akO]
theorem abQ : AX pQ := Afs (F := amI) (fn := Tryz.f332) (m := []) (ag ⟨azc, trivial⟩) Tryz.func332 trivial
def alh : Shape := ⟨[(0, .dat am), (1, .dat (.list af))], []⟩
def alu : Shape := ⟨[(0, .own af 0)], [.arr 58 af false]⟩
def ot : Ent := ⟨343, alh, alu, agb⟩
def akS : Fx := AF0 [rl]
theorem zS : AX ot := Afs (F := akS) (fn := Tryz.f343) (m := []) (ag ⟨vR, trivial⟩) Tryz.func343 trivial
def arL : Shape := ⟨[(0, .dat (.list af)), (1, .dat ac)], []⟩
def asq : Shape := ⟨[(0, .clip af)], []⟩
def afl : Ent := ⟨360, arL, asq, apm⟩
def art : Fx := AF0 [wQ]
theorem auj : AX afl := Afs (F := art) (fn := Tryz.f360) (m := []) (ag ⟨aez, trivial⟩) Tryz.func360 trivial
def afv : Lp := ⟨⟨[(1, DS), (2, DS), (7, .own af 0), (15, DI), (16, DI)], [.arr 58 af false]⟩, (.exit 0), ⟨[(7, .own af 0)], [.arr 58 af false]⟩, (.exit 80000000), ⟨[], []⟩⟩
def axA : Shape := ⟨[(0, .dat (.list af)), (1, DS), (2, DS)], []⟩
def axZ : Shape := ⟨[(0, .own af 0)], [.arr 58 af false]⟩
def akG : Ent := ⟨358, axA, axZ, awX⟩
def ac3 : Fx := bj Acx (av [vI, dI, bx, afl]) (fun k st => bif Nat.beq k 0 then afv.go alV 0 st else .fail) 0
theorem alU : aC Tryz.prog (ac3).Γ := ag ⟨aaY, fg, cl, auj, trivial⟩
theorem awj : aJ Tryz.prog ac3 Tryz.f358.ntmps 0 (al (ah Tryz.f358) 0) := Als (L := afv) (b := alT) (m := []) alU trivial
theorem ayH : AX akG := Afs (F := ac3) (fn := Tryz.f358) (m := [(0, al (ah Tryz.f358) 0)]) alU Tryz.func358 ⟨awj, trivial⟩
def ab7 : Lp := ⟨⟨[(0, .dat (.list af)), (1, .dat (.list af)), (5, .own af 0)], [.arr 58 af false]⟩, (.exit 0), ⟨[(0, .dat (.list af)), (1, .dat (.list af)), (5, .own af 0)], [.arr 58 af false]⟩, (.exit 80000000), ⟨[], []⟩⟩
def arM : Shape := ⟨[(0, .dat (.list af)), (1, .dat (.list af))], []⟩
def asr : Shape := ⟨[(0, .own af 0)], [.arr 58 af false]⟩
def afm : Ent := ⟨39, arM, asr, apn⟩
def yw : Fx := bj Acx (av []) (fun k st => bif Nat.beq k 0 then ab7.go agT 0 st else .fail) 0
theorem agS : aC Tryz.prog (yw).Γ := ag trivial
theorem aqI : aJ Tryz.prog yw Tryz.f39.ntmps 0 (al (ah Tryz.f39) 0) := Als (L := ab7) (b := agR) (m := []) agS trivial
theorem auk : AX afm := Afs (F := yw) (fn := Tryz.f39) (m := [(0, al (ah Tryz.f39) 0)]) agS Tryz.func39 ⟨aqI, trivial⟩
def ajE : Shape := ⟨[(0, .dat am), (1, .dat (.list af))], []⟩
def ajR : Shape := ⟨[(0, .own af 0)], [.arr 58 af false]⟩
def jR : Ent := ⟨356, ajE, ajR, wY⟩
def aj2 : Fx := AF0 [dI, rl, akG, afm]
theorem s4 : AX jR := Afs (F := aj2) (fn := Tryz.f356) (m := []) (ag ⟨fg, vR, ayH, auk, trivial⟩) Tryz.func356 trivial
def alk : Shape := ⟨[(0, .dat am), (1, .dat (.list af))], []⟩
def alx : Shape := ⟨[(0, .own af 0)], [.arr 58 af false]⟩
def ow : Ent := ⟨350, alk, alx, age⟩
def akV : Fx := AF0 [dI, rl, jR]
theorem zW : AX ow := Afs (F := akV) (fn := Tryz.f350) (m := []) (ag ⟨fg, vR, s4, trivial⟩) Tryz.func350 trivial
def wg : Lp := ⟨⟨[(2, .ptr 0 am 0 []), (5, .own af 1), (10, DI), (11, DI)], [.box 215 am (.dat am), .arr 58 af false]⟩, (.exit 0), ⟨[(5, .own af 0)], [.arr 58 af false]⟩, (.exit 80000000), ⟨[], []⟩⟩
def ajJ : Shape := ⟨[(0, .dat am), (1, .dat (.list af))], []⟩
def ajW : Shape := ⟨[(0, .own af 0)], [.arr 58 af false]⟩
def mG : Ent := ⟨366, ajJ, ajW, aei⟩
def se : Fx := bj Acx (av [oO, bx]) (fun k st => bif Nat.beq k 0 then wg.go yT 0 st else .fail) 0
theorem yS : aC Tryz.prog (se).Γ := ag ⟨tb, cl, trivial⟩
theorem ahJ : aJ Tryz.prog se Tryz.f366.ntmps 0 (al (ah Tryz.f366) 0) := Als (L := wg) (b := yR) (m := []) yS trivial
theorem yU : AX mG := Afs (F := se) (fn := Tryz.f366) (m := [(0, al (ah Tryz.f366) 0)]) yS Tryz.func366 ⟨ahJ, trivial⟩
def ax6 : Shape := ⟨[(0, .dat (.list af)), (1, .dat am)], []⟩
def axV : Shape := ⟨[(0, .dat (.list af))], []⟩
def acu : Ent := ⟨61, ax6, axV, aoh⟩
noncomputable def axo : Fx := bj Acx (a3M Acx (av [pV, pQ, ot, jR, ow, mG]) 110 Tryz.f110 (av [pV, pQ, ot, jR, ow, mG])) (fun k st => .fail) 0
theorem alP : AX acu := Afs (F := axo) (fn := Tryz.f61) (m := []) (acE (by kernel_rfl) (ahm (F := (bj Acx (av [pV, pQ, ot, jR, ow, mG]) (fun _ _ => .fail) 0)) gZ (ag ⟨abV, abQ, zS, s4, zW, yU, trivial⟩) bC Tryz.func110 (by kernel_rfl) (by kernel_rfl) (by kernel_rfl)) (ag ⟨abV, abQ, zS, s4, zW, yU, trivial⟩)) Tryz.func61 trivial
def ale : Lp := ⟨⟨[(0, .dat (.list af)), (7, .dat (.list am)), (8, DI), (9, DI)], []⟩, (.exit 0), ⟨[(0, .dat (.list af))], []⟩, (.exit 80000000), ⟨[], []⟩⟩
def a0E : Shape := ⟨[(0, .dat (.list af)), (1, .dat (.list am))], []⟩
def a0F : Shape := ⟨[(0, .dat (.list af))], []⟩
def ajy : Ent := ⟨43, a0E, a0F, ayF⟩
def aj1 : Fx := bj Acx (av [acu]) (fun k st => bif Nat.beq k 0 then ale.go atf 0 st else .fail) 0
theorem ate : aC Tryz.prog (aj1).Γ := ag ⟨alP, trivial⟩
theorem a0j : aJ Tryz.prog aj1 Tryz.f43.ntmps 0 (al (ah Tryz.f43) 0) := Als (L := ale) (b := atd) (m := []) ate trivial
theorem atg : AX ajy := Afs (F := aj1) (fn := Tryz.f43) (m := [(0, al (ah Tryz.f43) 0)]) ate Tryz.func43 ⟨a0j, trivial⟩
def ajO : Shape := ⟨[(0, .dat ac), (1, .ptr 0 af 0 [])], [.box 58 af (.dat af)]⟩
def akb : Shape := ⟨[(0, DB)], [.box 58 af (.dat af)]⟩
def yl : Ent := ⟨173, ajO, akb, ae0⟩
def ajB : Fx := bj Acx (av [oO]) (fun k st => .fail) 1
theorem akD : AX yl := Afs (F := ajB) (fn := Tryz.f173) (m := []) (ag ⟨tb, trivial⟩) Tryz.func173 trivial
def eS : Lp := ⟨⟨[(0, .dat (.list ac)), (1, .fn 173 [] [(.ptr 0 af 0 [])]), (7, DI), (8, DI)], [.box 58 af (.dat af)]⟩, .ret, ⟨[(4, DI)], [.box 58 af (.dat af)]⟩, (.exit 0), ⟨[], [.box 58 af (.dat af)]⟩⟩
def n9 : Shape := ⟨[(0, .dat (.list ac)), (1, .fn 173 [] [(.ptr 0 af 0 [])])], [.box 58 af (.dat af)]⟩
def nJ : Shape := ⟨[(0, DI)], [.box 58 af (.dat af)]⟩
def fG : Ent := ⟨116, n9, nJ, iL⟩
def cy : Fx := bj Acx (av [yl]) (fun k st => bif Nat.beq k 0 then eS.go gb 1 st else .fail) 1
theorem ga : aC Tryz.prog (cy).Γ := ag ⟨akD, trivial⟩
theorem mX : aJ Tryz.prog cy Tryz.f116.ntmps 0 (al (ah Tryz.f116) 0) := Als (L := eS) (b := fZ) (m := []) ga trivial
theorem nV : AX fG := Afs (F := cy) (fn := Tryz.f116) (m := [(0, al (ah Tryz.f116) 0)]) ga Tryz.func116 ⟨mX, trivial⟩
def mc : Shape := ⟨[(0, .dat (.list ac)), (1, .fn 173 [] [(.ptr 0 af 0 [])])], [.box 58 af (.dat af)]⟩
def mg : Shape := ⟨[(0, DB)], [.box 58 af (.dat af)]⟩
def eJ : Ent := ⟨71, mc, mg, fS⟩
def lY : Fx := bj Acx (av [fG]) (fun k st => .fail) 1
theorem mn : AX eJ := Afs (F := lY) (fn := Tryz.f71) (m := []) (ag ⟨nV, trivial⟩) Tryz.func71 trivial
def an2 : Shape := ⟨[(0, .dat af), (1, .ptr 0 (.list ac) 0 [])], [.box 62 (.list ac) (.dat (.list ac))]⟩
def anQ : Shape := ⟨[(0, DB)], [.box 62 (.list ac) (.dat (.list ac))]⟩
def vi : Ent := ⟨172, an2, anQ, abg⟩
def anc : Fx := bj Acx (av [eJ]) (fun k st => .fail) 1
theorem acr : AX vi := Afs (F := anc) (fn := Tryz.f172) (m := []) (ag ⟨mn, trivial⟩) Tryz.func172 trivial
def gO : Lp := ⟨⟨[(0, .own af 0), (1, .fn 172 [] [(.ptr 1 (.list ac) 0 [])]), (7, DI), (8, DI)], [.arr 58 af false, .box 62 (.list ac) (.dat (.list ac))]⟩, .ret, ⟨[(4, DI)], [.arr 58 af false, .box 62 (.list ac) (.dat (.list ac))]⟩, (.exit 0), ⟨[], [.arr 58 af false, .box 62 (.list ac) (.dat (.list ac))]⟩⟩
def qb : Shape := ⟨[(0, .own af 0), (1, .fn 172 [] [(.ptr 1 (.list ac) 0 [])])], [.arr 58 af false, .box 62 (.list ac) (.dat (.list ac))]⟩
def qg : Shape := ⟨[(0, DI)], [.arr 58 af false, .box 62 (.list ac) (.dat (.list ac))]⟩
def iq : Ent := ⟨219, qb, qg, kj⟩
def db : Fx := bj Acx (av [vi]) (fun k st => bif Nat.beq k 0 then gO.go iD 2 st else .fail) 2
theorem iC : aC Tryz.prog (db).Γ := ag ⟨acr, trivial⟩
theorem pD : aJ Tryz.prog db Tryz.f219.ntmps 0 (al (ah Tryz.f219) 0) := Als (L := gO) (b := iB) (m := []) iC trivial
theorem qq : AX iq := Afs (F := db) (fn := Tryz.f219) (m := [(0, al (ah Tryz.f219) 0)]) iC Tryz.func219 ⟨pD, trivial⟩
def fM : Lp := ⟨⟨[(0, .own af 0), (1, .fn 172 [] [(.ptr 1 (.list ac) 0 [])]), (5, DI), (6, DI)], [.arr 58 af false, .box 62 (.list ac) (.dat (.list ac))]⟩, (.exit 0), ⟨[(0, .own af 0), (5, DI)], [.arr 58 af false, .box 62 (.list ac) (.dat (.list ac))]⟩, (.exit 80000000), ⟨[], []⟩⟩
def oX : Shape := ⟨[(0, .own af 0), (1, .fn 172 [] [(.ptr 1 (.list ac) 0 [])])], [.arr 58 af false, .box 62 (.list ac) (.dat (.list ac))]⟩
def ph : Shape := ⟨[(0, .own af 2)], [.gone, .box 62 (.list ac) (.dat (.list ac)), .arr 58 af false]⟩
def hM : Ent := ⟨170, oX, ph, js⟩
def cO : Fx := bj Acx (av [vi, iq]) (fun k st => bif Nat.beq k 0 then fM.go ic 2 st else .fail) 2
theorem ib : aC Tryz.prog (cO).Γ := ag ⟨acr, qq, trivial⟩
theorem oI : aJ Tryz.prog cO Tryz.f170.ntmps 0 (al (ah Tryz.f170) 0) := Als (L := fM) (b := ia) (m := []) ib trivial
theorem pB : AX hM := Afs (F := cO) (fn := Tryz.f170) (m := [(0, al (ah Tryz.f170) 0)]) ib Tryz.func170 ⟨oI, trivial⟩
def arS : Shape := ⟨[(0, .dat (.list af)), (1, .dat (.list ac))], []⟩
def asx : Shape := ⟨[(0, .own af 0)], [.arr 58 af false]⟩
def yk : Ent := ⟨137, arS, asx, aau⟩
def ary : Fx := AF0 [bx, hM]
theorem ahe : AX yk := Afs (F := ary) (fn := Tryz.f137) (m := []) (ag ⟨cl, pB, trivial⟩) Tryz.func137 trivial
def fA : Shape := ⟨[(0, .yld 1013600 0), (1, .dat af)], [.loop 1013600 [(12, .ptr 1 (.list af) 0 [])], .box 64 (.list af) (.own af 2), .arr 58 af false]⟩
def fB : Shape := ⟨[(0, DB)], [.loop 1013600 [(12, .ptr 1 (.list af) 0 [])], .box 64 (.list af) (.own af 3), .gone, .arr 58 af false]⟩
def lp : Ent := ⟨1013600, fA, fB, iU⟩
def lq : Fx := bj Acx (av []) (fun k st => .fail) 3
theorem uM (s : fA.ty.den) : @Eq (Option fB.ty.den) (aoJ lq evC 1013600 (acY Tryz.f136 0) fA fB s).val (iU s) := by kernel_rfl
theorem uN : AX lp :=
  adq (F := lq) (c := acY Tryz.f136 0) gZ (ag trivial) bC (by kernel_rfl) (by kernel_rfl) (by kernel_rfl) (m := []) (by kernel_rfl) trivial (by kernel_rfl) uM
def eU : Lp := ⟨⟨[(0, .own ac 0), (1, .fn 169 [] [(.ptr 1 ac 0 [])]), (7, DI), (8, DI)], [.arr 39 ac true, .box 39 ac (.dat ac)]⟩, .ret, ⟨[(4, DI)], [.arr 39 ac true, .box 39 ac (.dat ac)]⟩, (.exit 0), ⟨[], [.arr 39 ac true, .box 39 ac (.dat ac)]⟩⟩
def nA : Shape := ⟨[(0, .own ac 0), (1, .fn 169 [] [(.ptr 1 ac 0 [])])], [.arr 39 ac true, .box 39 ac (.dat ac)]⟩
def nK : Shape := ⟨[(0, DI)], [.arr 39 ac true, .box 39 ac (.dat ac)]⟩
def fH : Ent := ⟨116, nA, nK, iM⟩
def cz : Fx := bj Acx (av [sK]) (fun k st => bif Nat.beq k 0 then eU.go gh 2 st else .fail) 2
theorem gf : aC Tryz.prog (cz).Γ := ag ⟨acp, trivial⟩
theorem mY : aJ Tryz.prog cz Tryz.f116.ntmps 0 (al (ah Tryz.f116) 0) := Als (L := eU) (b := gc) (m := []) gf trivial
theorem nW : AX fH := Afs (F := cz) (fn := Tryz.f116) (m := [(0, al (ah Tryz.f116) 0)]) gf Tryz.func116 ⟨mY, trivial⟩
def md : Shape := ⟨[(0, .own ac 0), (1, .fn 169 [] [(.ptr 1 ac 0 [])])], [.arr 39 ac true, .box 39 ac (.dat ac)]⟩
def mh : Shape := ⟨[(0, DB)], [.arr 39 ac true, .box 39 ac (.dat ac)]⟩
def eK : Ent := ⟨71, md, mh, fT⟩
def lZ : Fx := bj Acx (av [fH]) (fun k st => .fail) 2
theorem mq : AX eK := Afs (F := lZ) (fn := Tryz.f71) (m := []) (ag ⟨nW, trivial⟩) Tryz.func71 trivial
def bN : Lp := ⟨⟨[(0, .yld 1013600 0), (1, .ptr 1 .opq 0 []), (41, .own af 8), (42, DI), (43, DI)], [.loop 1013600 [(12, .ptr 5 (.list af) 0 [])], .box 141 .opq (.ptr 6 aB 0 []), .box 3 (.int .i64) DI, .box 39 ac (.dat ac), .box 62 (.list ac) (.dat (.list ac)), .box 64 (.list af) (.own af 9), .box 143 aB (.agg [(.dat aq), DI]), .gone, .arr 58 af false, .arr 58 af false]⟩, .ret, ⟨[], [.loop 1013600 [(12, .ptr 5 (.list af) 0 [])], .box 141 .opq (.ptr 6 aB 0 []), .box 3 (.int .i64) DI, .box 39 ac (.dat ac), .box 62 (.list ac) (.dat (.list ac)), .box 64 (.list af) (.own af 8), .box 143 aB (.agg [(.dat aq), DI]), .gone, .arr 58 af false]⟩, (.exit 0), ⟨[], [.loop 1013600 [(12, .ptr 5 (.list af) 0 [])], .box 141 .opq (.ptr 6 aB 0 []), .box 3 (.int .i64) DI, .box 39 ac (.dat ac), .box 62 (.list ac) (.dat (.list ac)), .box 64 (.list af) (.own af 8), .box 143 aB (.agg [(.dat aq), DI]), .gone, .arr 58 af false]⟩⟩
def jY : Shape := ⟨[(0, .yld 1013600 0), (1, .ptr 1 .opq 0 []), (2, .ptr 2 (.int .i64) 0 []), (3, .ptr 3 ac 0 []), (4, .ptr 4 (.list ac) 0 [])], [.loop 1013600 [(12, .ptr 5 (.list af) 0 [])], .box 141 .opq (.ptr 6 aB 0 []), .box 3 (.int .i64) DI, .box 39 ac (.dat ac), .box 62 (.list ac) (.dat (.list ac)), .box 64 (.list af) (.own af 7), .box 143 aB (.agg [(.dat aq), DI]), .arr 58 af false]⟩
def jZ : Shape := ⟨[], [.loop 1013600 [(12, .ptr 5 (.list af) 0 [])], .box 141 .opq (.ptr 6 aB 0 []), .box 3 (.int .i64) DI, .box 39 ac (.dat ac), .box 62 (.list ac) (.dat (.list ac)), .box 64 (.list af) (.own af 8), .box 143 aB (.agg [(.dat aq), DI]), .gone, .arr 58 af false]⟩
def jW (tree_scanner_below_r : (api_Node × aa × (List aa) × aj × Int × Unit) -> Option ((List ae) × aj × Int × Unit)) : Ent := ⟨135, jY, jZ, lX tree_scanner_below_r⟩
def cS (tree_scanner_below_r : (api_Node × aa × (List aa) × aj × Int × Unit) -> Option ((List ae) × aj × Int × Unit)) : Fx := bj Acx (av [mw, kL, (bp tree_scanner_below_r), ajy, yk, lp]) (fun k st => bif Nat.beq k 0 then bN.go (k9 tree_scanner_below_r) 8 st else .fail) 8
theorem wL (tree_scanner_below_r : (api_Node × aa × (List aa) × aj × Int × Unit) -> Option ((List ae) × aj × Int × Unit)) (s : bN.S.ty.den) : @Eq (Option (bN.S.ty.den ⊕ bN.Out)) (bN.body (cS tree_scanner_below_r) (al (ah Tryz.f135) 0) 0 s).val (kz tree_scanner_below_r s) := by kernel_rfl
theorem zy (tree_scanner_below_r : (api_Node × aa × (List aa) × aj × Int × Unit) -> Option ((List ae) × aj × Int × Unit)) (s : jY.ty.den) : @Eq (Option jZ.ty.den) (aoc (cS tree_scanner_below_r) Tryz.f135 jY jZ s).val (lX tree_scanner_below_r s) := by kernel_rfl
theorem pO (tree_scanner_below_r : (api_Node × aa × (List aa) × aj × Int × Unit) -> Option ((List ae) × aj × Int × Unit)) (tree_scanner_below_r_ok : EntOK Tryz.prog (bp tree_scanner_below_r)) : aC Tryz.prog (cS tree_scanner_below_r).Γ := ag ⟨sV, q9, (tree_scanner_below_r_ok.x (by kernel_rfl)), atg, ahe, uN, trivial⟩
theorem xP (tree_scanner_below_r : (api_Node × aa × (List aa) × aj × Int × Unit) -> Option ((List ae) × aj × Int × Unit)) (tree_scanner_below_r_ok : EntOK Tryz.prog (bp tree_scanner_below_r)) : aJ Tryz.prog (cS tree_scanner_below_r) Tryz.f135.ntmps 0 (al (ah Tryz.f135) 0) :=
  sT gZ (pO tree_scanner_below_r tree_scanner_below_r_ok) bC (L := bN) (f := k9 tree_scanner_below_r) (b := kz tree_scanner_below_r) (m := []) (fun _ => rfl) (by kernel_rfl) (by kernel_rfl) trivial (by kernel_rfl) (bl _ (by kernel_rfl)) (wL tree_scanner_below_r)
theorem zz (tree_scanner_below_r : (api_Node × aa × (List aa) × aj × Int × Unit) -> Option ((List ae) × aj × Int × Unit)) (tree_scanner_below_r_ok : EntOK Tryz.prog (bp tree_scanner_below_r)) : EntOK Tryz.prog (jW tree_scanner_below_r) :=
  sR (F := (cS tree_scanner_below_r)) gZ (pO tree_scanner_below_r tree_scanner_below_r_ok) bC (fn := Tryz.f135) (m := [(0, al (ah Tryz.f135) 0)]) Tryz.func135 (by kernel_rfl) (by kernel_rfl) (by kernel_rfl) ⟨xP tree_scanner_below_r tree_scanner_below_r_ok, trivial⟩ (bl _ (by kernel_rfl)) (by kernel_rfl) (zy tree_scanner_below_r)
theorem zA (tree_scanner_below_r : (api_Node × aa × (List aa) × aj × Int × Unit) -> Option ((List ae) × aj × Int × Unit)) (tree_scanner_below_r_ok : EntOK Tryz.prog (bp tree_scanner_below_r)) : az9 Tryz.prog (jW tree_scanner_below_r) := (zz tree_scanner_below_r tree_scanner_below_r_ok).x (by kernel_rfl)
def cK : Lp := ⟨⟨[(0, .ptr 0 aB 0 []), (5, .ptr 1 a8 0 []), (6, .ptr 2 ac 0 []), (8, .dat (.list af)), (9, .own ac 3), (16, .dat (.list ac)), (17, DI), (18, DI)], [.box 143 aB (.agg [(.dat aq), DI]), .box 85 a8 (.dat a8), .box 39 ac (.dat ac), .arr 39 ac false]⟩, (.exit 0), ⟨[(0, .ptr 0 aB 0 []), (5, .ptr 1 a8 0 []), (6, .ptr 2 ac 0 []), (8, .dat (.list af)), (9, .own ac 3)], [.box 143 aB (.agg [(.dat aq), DI]), .box 85 a8 (.dat a8), .box 39 ac (.dat ac), .arr 39 ac false]⟩, (.exit 80000000), ⟨[], []⟩⟩
def cL : Lp := ⟨⟨[(0, .ptr 0 aB 0 []), (5, .ptr 1 a8 0 []), (8, .dat (.list af)), (9, .own ac 2), (12, .ptr 3 (.list af) 0 []), (31, .own ac 4), (32, DI), (33, DI)], [.box 143 aB (.agg [(.dat aq), DI]), .box 85 a8 (.dat a8), .arr 39 ac true, .box 64 (.list af) (.own af 5), .arr 39 ac false, .arr 58 af false]⟩, .ret, ⟨[(8, .dat (.list af))], [.box 143 aB (.agg [(.dat aq), DI])]⟩, (.exit 2), ⟨[(12, .ptr 1 (.list af) 0 [])], [.box 143 aB (.agg [(.dat aq), DI]), .box 64 (.list af) (.own af 2), .arr 58 af false]⟩⟩
def nr : Ent := ⟨136, dE, dF, zw⟩
def cC (tree_scanner_below_r : (api_Node × aa × (List aa) × aj × Int × Unit) -> Option ((List ae) × aj × Int × Unit)) : Fx := { cx := Acx, Γ := av [nu, (bp tree_scanner_below_r), yf, aav, eK, (jW tree_scanner_below_r)], Λ := fun k st => bif Nat.beq k 0 then cK.go (oj tree_scanner_below_r) 1 st else bif Nat.beq k 2 then cL.go (ol tree_scanner_below_r) 1 st else .fail, keep := fun _ => none, m := 1, rfs := fun k => bif Nat.beq k 13 then some 1013600 else none, its := [135] }
theorem abd (tree_scanner_below_r : (api_Node × aa × (List aa) × aj × Int × Unit) -> Option ((List ae) × aj × Int × Unit)) (s : cK.S.ty.den) : @Eq (Option (cK.S.ty.den ⊕ cK.Out)) (cK.body (cC tree_scanner_below_r) (al (ah Tryz.f136) 0) 0 s).val (og tree_scanner_below_r s) := by kernel_rfl
theorem abe (tree_scanner_below_r : (api_Node × aa × (List aa) × aj × Int × Unit) -> Option ((List ae) × aj × Int × Unit)) (s : cL.S.ty.den) : @Eq (Option (cL.S.ty.den ⊕ cL.Out)) (cL.body (cC tree_scanner_below_r) (al (ah Tryz.f136) 1) 2 s).val (oh tree_scanner_below_r s) := by kernel_rfl
theorem aeR (tree_scanner_below_r : (api_Node × aa × (List aa) × aj × Int × Unit) -> Option ((List ae) × aj × Int × Unit)) (s : dE.ty.den) : @Eq (Option dF.ty.den) (aoc (cC tree_scanner_below_r) Tryz.f136 dE dF s).val (lV tree_scanner_below_r s) := by kernel_rfl
theorem oi (tree_scanner_below_r : (api_Node × aa × (List aa) × aj × Int × Unit) -> Option ((List ae) × aj × Int × Unit)) (tree_scanner_below_r_ok : EntOK Tryz.prog (bp tree_scanner_below_r)) : aC Tryz.prog (cC tree_scanner_below_r).Γ := ag ⟨vf, (tree_scanner_below_r_ok.x (by kernel_rfl)), auo, aiH, mq, (zA tree_scanner_below_r tree_scanner_below_r_ok), trivial⟩
theorem ad6 (tree_scanner_below_r : (api_Node × aa × (List aa) × aj × Int × Unit) -> Option ((List ae) × aj × Int × Unit)) (tree_scanner_below_r_ok : EntOK Tryz.prog (bp tree_scanner_below_r)) : aJ Tryz.prog (cC tree_scanner_below_r) Tryz.f136.ntmps 0 (al (ah Tryz.f136) 0) :=
  sT gZ (oi tree_scanner_below_r tree_scanner_below_r_ok) bC (L := cK) (f := oj tree_scanner_below_r) (b := og tree_scanner_below_r) (m := []) (fun _ => rfl) (by kernel_rfl) (by kernel_rfl) trivial (by kernel_rfl) (bl _ (by kernel_rfl)) (abd tree_scanner_below_r)
theorem ad7 (tree_scanner_below_r : (api_Node × aa × (List aa) × aj × Int × Unit) -> Option ((List ae) × aj × Int × Unit)) (tree_scanner_below_r_ok : EntOK Tryz.prog (bp tree_scanner_below_r)) : aJ Tryz.prog (cC tree_scanner_below_r) Tryz.f136.ntmps 2 (al (ah Tryz.f136) 1) :=
  sT gZ (oi tree_scanner_below_r tree_scanner_below_r_ok) bC (L := cL) (f := ol tree_scanner_below_r) (b := oh tree_scanner_below_r) (m := []) (fun _ => rfl) (by kernel_rfl) (by kernel_rfl) trivial (by kernel_rfl) (amz (m := [(13, acY Tryz.f136 0)]) (its := [135]) (by kernel_rfl) ⟨atS (Y := 1013600) (by kernel_rfl) (by kernel_rfl), trivial⟩ (by kernel_rfl) ⟨⟨_, Tryz.func135, by kernel_rfl, by kernel_rfl⟩, trivial⟩) (abe tree_scanner_below_r)
theorem zx (tree_scanner_below_r : (api_Node × aa × (List aa) × aj × Int × Unit) -> Option ((List ae) × aj × Int × Unit)) (tree_scanner_below_r_ok : EntOK Tryz.prog (bp tree_scanner_below_r)) : EntOK Tryz.prog ⟨136, dE, dF, lV tree_scanner_below_r⟩ :=
  sR (F := (cC tree_scanner_below_r)) gZ (oi tree_scanner_below_r tree_scanner_below_r_ok) bC (fn := Tryz.f136) (m := [(0, al (ah Tryz.f136) 0), (2, al (ah Tryz.f136) 1)]) Tryz.func136 (by kernel_rfl) (by kernel_rfl) (by kernel_rfl) ⟨ad6 tree_scanner_below_r tree_scanner_below_r_ok, ad7 tree_scanner_below_r tree_scanner_below_r_ok, trivial⟩ (amz (m := [(13, acY Tryz.f136 0)]) (its := [135]) (by kernel_rfl) ⟨atS (Y := 1013600) (by kernel_rfl) (by kernel_rfl), trivial⟩ (by kernel_rfl) ⟨⟨_, Tryz.func135, by kernel_rfl, by kernel_rfl⟩, trivial⟩) (by kernel_rfl) (aeR tree_scanner_below_r)
theorem pM : ∀ n, EntOK Tryz.prog ⟨136, dE, dF, lU n⟩
  | 0 => alD
  | n + 1 => zx _ (pM n)
theorem aeS : EntOK Tryz.prog nr := pM aqr
theorem aeT : AX nr := (aeS).x (by kernel_rfl)
def mK : Shape := ⟨[(0, .yld 1002700 0), (1, .dat af)], [.loop 1002700 [(7, .ptr 1 (.list af) 0 [])], .box 64 (.list af) (.own af 2), .arr 58 af false]⟩
def mM : Shape := ⟨[(0, DB)], [.loop 1002700 [(7, .ptr 1 (.list af) 0 [])], .box 64 (.list af) (.own af 3), .gone, .arr 58 af false]⟩
def tZ : Ent := ⟨1002700, mK, mM, ri⟩
def ue : Fx := bj Acx (av []) (fun k st => .fail) 3
theorem ad4 (s : mK.ty.den) : @Eq (Option mM.ty.den) (aoJ ue evC 1002700 (acY Tryz.f27 0) mK mM s).val (ri s) := by kernel_rfl
theorem ad5 : AX tZ :=
  adq (F := ue) (c := acY Tryz.f27 0) gZ (ag trivial) bC (by kernel_rfl) (by kernel_rfl) (by kernel_rfl) (m := []) (by kernel_rfl) trivial (by kernel_rfl) ad4

end D
/- Entries, by program. -/
open Go Go.X Go.Proofs D
namespace D
def qC : Lp := ⟨⟨[(0, .yld 1002700 0), (1, .ptr 1 .opq 0 []), (41, .own af 7), (42, DI), (43, DI)], [.loop 1002700 [(7, .ptr 5 (.list af) 0 [])], .box 141 .opq (.ptr 6 aB 0 []), .box 3 (.int .i64) DI, .box 39 ac (.dat ac), .box 62 (.list ac) (.dat (.list ac)), .box 64 (.list af) (.own af 8), .box 143 aB (.agg [(.dat aq), DI]), .arr 58 af false, .arr 58 af false]⟩, .ret, ⟨[], [.loop 1002700 [(7, .ptr 5 (.list af) 0 [])], .box 141 .opq (.ptr 6 aB 0 []), .box 3 (.int .i64) DI, .box 39 ac (.dat ac), .box 62 (.list ac) (.dat (.list ac)), .box 64 (.list af) (.own af 7), .box 143 aB (.agg [(.dat aq), DI]), .arr 58 af false]⟩, (.exit 0), ⟨[], [.loop 1002700 [(7, .ptr 5 (.list af) 0 [])], .box 141 .opq (.ptr 6 aB 0 []), .box 3 (.int .i64) DI, .box 39 ac (.dat ac), .box 62 (.list ac) (.dat (.list ac)), .box 64 (.list af) (.own af 7), .box 143 aB (.agg [(.dat aq), DI]), .arr 58 af false]⟩⟩
def abE : Shape := ⟨[(0, .yld 1002700 0), (1, .ptr 1 .opq 0 []), (2, .ptr 2 (.int .i64) 0 []), (3, .ptr 3 ac 0 []), (4, .ptr 4 (.list ac) 0 [])], [.loop 1002700 [(7, .ptr 5 (.list af) 0 [])], .box 141 .opq (.ptr 6 aB 0 []), .box 3 (.int .i64) DI, .box 39 ac (.dat ac), .box 62 (.list ac) (.dat (.list ac)), .box 64 (.list af) (.nils 58 af), .box 143 aB (.agg [(.dat aq), DI])]⟩
def abJ : Shape := ⟨[], [.loop 1002700 [(7, .ptr 5 (.list af) 0 [])], .box 141 .opq (.ptr 6 aB 0 []), .box 3 (.int .i64) DI, .box 39 ac (.dat ac), .box 62 (.list ac) (.dat (.list ac)), .box 64 (.list af) (.own af 7), .box 143 aB (.agg [(.dat aq), DI]), .arr 58 af false]⟩
def sL : Ent := ⟨135, abE, abJ, wK⟩
def lF : Fx := bj Acx (av [mw, kL, ajy, yk, nr, tZ]) (fun k st => bif Nat.beq k 0 then qC.go lW 7 st else .fail) 7
theorem tp : aC Tryz.prog (lF).Γ := ag ⟨sV, q9, atg, ahe, aeT, ad5, trivial⟩
theorem abf : aJ Tryz.prog lF Tryz.f135.ntmps 0 (al (ah Tryz.f135) 0) := Als (L := qC) (b := tn) (m := []) tp trivial
theorem acq : AX sL := Afs (F := lF) (fn := Tryz.f135) (m := [(0, al (ah Tryz.f135) 0)]) tp Tryz.func135 ⟨abf, trivial⟩
def mJ : Shape := ⟨[(0, .dat bo), (1, .dat ac)], []⟩
def mL : Shape := ⟨[(0, .own af 0), (1, DI)], [.arr 58 af false]⟩
def axm : Ent := ⟨27, mJ, mL, ahy⟩
def alc : Fx := { cx := Acx, Γ := av [nu, sL], Λ := fun k st => .fail, keep := fun _ => none, m := 0, rfs := fun k => bif Nat.beq k 4 then some 1002700 else none, its := [135] }
theorem azi (s : mJ.ty.den) : @Eq (Option mL.ty.den) (aoc alc Tryz.f27 mJ mL s).val (ahy s) := by kernel_rfl
theorem azj : EntOK Tryz.prog axm :=
  sR (F := alc) gZ (ag ⟨vf, acq, trivial⟩) bC (fn := Tryz.f27) (m := []) Tryz.func27 (by kernel_rfl) (by kernel_rfl) (by kernel_rfl) trivial (amz (m := [(4, acY Tryz.f27 0)]) (its := [135]) (by kernel_rfl) ⟨atS (Y := 1002700) (by kernel_rfl) (by kernel_rfl), trivial⟩ (by kernel_rfl) ⟨⟨_, Tryz.func135, by kernel_rfl, by kernel_rfl⟩, trivial⟩) (by kernel_rfl) azi
def apT : Shape := ⟨[(0, DI), (1, DI), (2, DI)], []⟩
def aqm : Shape := ⟨[(0, DB)], []⟩
def adK : Ent := ⟨147, apT, aqm, xO⟩
def apA : Fx := AF0 []
theorem aqO : AX adK := Afs (F := apA) (fn := Tryz.f147) (m := []) (ag trivial) Tryz.func147 trivial
def av0 : Shape := ⟨[(0, .dat ad0)], []⟩
def avZ : Shape := ⟨[(0, DB)], []⟩
def aa5 : Ent := ⟨90, av0, avZ, akC⟩
def auR : Fx := AF0 [adK]
theorem ajx : AX aa5 := Afs (F := auR) (fn := Tryz.f90) (m := []) (ag ⟨aqO, trivial⟩) Tryz.func90 trivial
def avb : Shape := ⟨[(0, .dat aN)], []⟩
def avA : Shape := ⟨[(0, DB)], []⟩
def aif : Ent := ⟨112, avb, avA, atu⟩
def auA : Fx := AF0 []
theorem awp : AX aif := Afs (F := auA) (fn := Tryz.f112) (m := []) (ag trivial) Tryz.func112 trivial
def gP : Lp := ⟨⟨[(0, .dat (.list aN)), (1, .fn 112 [] []), (7, DI), (8, DI)], []⟩, .ret, ⟨[(4, DI)], []⟩, (.exit 0), ⟨[], []⟩⟩
def qc : Shape := ⟨[(0, .dat (.list aN)), (1, .fn 112 [] [])], []⟩
def qh : Shape := ⟨[(0, DI)], []⟩
def ir : Ent := ⟨111, qc, qh, kl⟩
def dc : Fx := bj Acx (av [aif]) (fun k st => bif Nat.beq k 0 then gP.go iH 0 st else .fail) 0
theorem iG : aC Tryz.prog (dc).Γ := ag ⟨awp, trivial⟩
theorem pE : aJ Tryz.prog dc Tryz.f111.ntmps 0 (al (ah Tryz.f111) 0) := Als (L := gP) (b := iF) (m := []) iG trivial
theorem qr : AX ir := Afs (F := dc) (fn := Tryz.f111) (m := [(0, al (ah Tryz.f111) 0)]) iG Tryz.func111 ⟨pE, trivial⟩
def avc : Shape := ⟨[(0, .dat aq)], []⟩
def avB : Shape := ⟨[(0, .agg [(.own aN 0)])], [.arr 87 aN false]⟩
def aay : Ent := ⟨104, avc, avB, akx⟩
def auB : Fx := AF0 []
theorem aiU : AX aay := Afs (F := auB) (fn := Tryz.f104) (m := []) (ag trivial) Tryz.func104 trivial
def aiu : Lp := ⟨⟨[(2, .ptr 0 aq 0 []), (3, .ptr 1 a8 0 []), (4, .ptr 2 aq 0 []), (14, .dat (.list (.int .i64))), (15, DI), (16, DI)], [.box 32 aq (.dat aq), .box 85 a8 (.dat a8), .box 32 aq (.agg [(.dat (.list aN))])]⟩, .ret, ⟨[(4, .ptr 0 aq 0 []), (5, DI), (6, DI)], [.box 32 aq (.dat aq)]⟩, (.exit 0), ⟨[(2, .ptr 0 aq 0 []), (3, .ptr 1 a8 0 []), (4, .ptr 2 aq 0 [])], [.box 32 aq (.dat aq), .box 85 a8 (.dat a8), .box 32 aq (.agg [(.dat (.list aN))])]⟩⟩
def aiv : Lp := ⟨⟨[(4, .ptr 0 aq 0 []), (9, DI), (10, .ptr 1 aq 0 []), (57, .dat (.list (.int .i64))), (58, DI), (59, DI)], [.box 32 aq (.agg [(.dat (.list aN))]), .box 32 aq (.agg [(.own aN 2)]), .arr 87 aN false]⟩, (.exit 2), ⟨[(4, .ptr 0 aq 0 []), (9, DI), (10, .ptr 1 aq 0 [])], [.box 32 aq (.agg [(.dat (.list aN))]), .box 32 aq (.agg [(.own aN 2)]), .arr 87 aN false]⟩, (.exit 80000002), ⟨[], []⟩⟩
def azx : Shape := ⟨[(0, .dat aq), (1, .dat a8)], []⟩
def az4 : Shape := ⟨[(0, .dat aq), (1, DI), (2, DI)], []⟩
def aeX : Ent := ⟨63, azx, az4, ame⟩
def zJ : Fx := bj Acx (av [xu, ir, aay]) (fun k st => bif Nat.beq k 0 then aiu.go aoX 0 st else bif Nat.beq k 2 then aiv.go aoY 0 st else .fail) 0
theorem agr : aC Tryz.prog (zJ).Γ := ag ⟨acW, qr, aiU, trivial⟩
theorem ayP : aJ Tryz.prog zJ Tryz.f63.ntmps 0 (al (ah Tryz.f63) 0) := Als (L := aiu) (b := aoT) (m := []) agr trivial
theorem ayQ : aJ Tryz.prog zJ Tryz.f63.ntmps 2 (al (ah Tryz.f63) 1) := Als (L := aiv) (b := aoU) (m := []) agr trivial
theorem aoZ : AX aeX := Afs (F := zJ) (fn := Tryz.f63) (m := [(0, al (ah Tryz.f63) 0), (2, al (ah Tryz.f63) 1)]) agr Tryz.func63 ⟨ayP, ayQ, trivial⟩
def wj : Shape := ⟨[(0, .dat ad0)], []⟩
def wm : Shape := ⟨[(0, .dat bo), (1, DI)], []⟩
def azn : Ent := ⟨40, wj, wm, auv⟩
def azt : Fx := AF0 [aa5, aeX]
theorem a09 : EntOK Tryz.prog azn := Afk (F := azt) (fn := Tryz.f40) (m := []) (ag ⟨ajx, aoZ, trivial⟩) Tryz.func40 trivial
def a1S : Shape := ⟨[(0, DI), (1, DI), (2, DI)], []⟩
def a1T : Shape := ⟨[(0, DB)], []⟩
def abi : Ent := ⟨326, a1S, a1T, akr⟩
def a1R : Fx := AF0 []
theorem aho : AX abi := Afs (F := a1R) (fn := Tryz.f326) (m := []) (ag trivial) Tryz.func326 trivial
def anm : Shape := ⟨[(0, .dat am)], []⟩
def anB : Shape := ⟨[(0, DB)], []⟩
def pX : Ent := ⟨322, anm, anB, aiG⟩
def amP : Fx := AF0 [abi]
theorem abX : AX pX := Afs (F := amP) (fn := Tryz.f322) (m := []) (ag ⟨aho, trivial⟩) Tryz.func322 trivial
def apD : Shape := ⟨[(0, .dat am)], []⟩
def apW : Shape := ⟨[(0, .dat am)], []⟩
def rU : Ent := ⟨320, apD, apW, alW⟩
def apx : Fx := AF0 []
theorem aeh : AX rU := Afs (F := apx) (fn := Tryz.f320) (m := []) (ag trivial) Tryz.func320 trivial
def anh : Shape := ⟨[(0, .dat am)], []⟩
def an6 : Shape := ⟨[(0, DB)], []⟩
def pS : Ent := ⟨335, anh, an6, aiB⟩
def amK : Fx := AF0 [abi]
theorem abS : AX pS := Afs (F := amK) (fn := Tryz.f335) (m := []) (ag ⟨aho, trivial⟩) Tryz.func335 trivial
def apC : Shape := ⟨[(0, .dat am)], []⟩
def apV : Shape := ⟨[(0, .dat am)], []⟩
def rS : Ent := ⟨333, apC, apV, alS⟩
def apw : Fx := AF0 []
theorem aee : AX rS := Afs (F := apw) (fn := Tryz.f333) (m := []) (ag trivial) Tryz.func333 trivial
def azu : Shape := ⟨[(0, .dat ac)], []⟩
def az1 : Shape := ⟨[(0, DB)], []⟩
def aeV : Ent := ⟨349, azu, az1, ati⟩
def azo : Fx := AF0 [gY]
theorem aoK : AX aeV := Afs (F := azo) (fn := Tryz.f349) (m := []) (ag ⟨jD, trivial⟩) Tryz.func349 trivial
def alj : Shape := ⟨[(0, .dat am)], []⟩
def alw : Shape := ⟨[(0, DB)], []⟩
def ov : Ent := ⟨346, alj, alw, agd⟩
def akU : Fx := AF0 [aeV]
theorem zV : AX ov := Afs (F := akU) (fn := Tryz.f346) (m := []) (ag ⟨aoK, trivial⟩) Tryz.func346 trivial
def ani : Shape := ⟨[(0, .dat am)], []⟩
def an7 : Shape := ⟨[(0, .dat am)], []⟩
def pT : Ent := ⟨344, ani, an7, aiC⟩
def amL : Fx := AF0 []
theorem abT : AX pT := Afs (F := amL) (fn := Tryz.f344) (m := []) (ag trivial) Tryz.func344 trivial
def ax9 : Shape := ⟨[(0, DS), (1, DS)], []⟩
def axY : Shape := ⟨[(0, DB)], []⟩
def acw : Ent := ⟨357, ax9, axY, aoj⟩
def axr : Fx := AF0 [oQ, abi]
theorem alR : AX acw := Afs (F := axr) (fn := Tryz.f357) (m := []) (ag ⟨w8, aho, trivial⟩) Tryz.func357 trivial
def aln : Shape := ⟨[(0, .dat am)], []⟩
def alz : Shape := ⟨[(0, DB)], []⟩
def o6 : Ent := ⟨353, aln, alz, agh⟩
def akX : Fx := AF0 [acw]
theorem zY : AX o6 := Afs (F := akX) (fn := Tryz.f353) (m := []) (ag ⟨alR, trivial⟩) Tryz.func353 trivial
def anj : Shape := ⟨[(0, .dat am)], []⟩
def an8 : Shape := ⟨[(0, .dat am)], []⟩
def pU : Ent := ⟨351, anj, an8, aiD⟩
def amM : Fx := AF0 []
theorem abU : AX pU := Afs (F := amM) (fn := Tryz.f351) (m := []) (ag trivial) Tryz.func351 trivial
def ajG : Shape := ⟨[(0, .dat am)], []⟩
def ajT : Shape := ⟨[(0, DB)], []⟩
def mD : Ent := ⟨363, ajG, ajT, aed⟩
def aj4 : Fx := AF0 [acw]
theorem yO : AX mD := Afs (F := aj4) (fn := Tryz.f363) (m := []) (ag ⟨alR, trivial⟩) Tryz.func363 trivial
def alf : Shape := ⟨[(0, .dat am)], []⟩
def alr : Shape := ⟨[(0, .dat am)], []⟩
def oo : Ent := ⟨361, alf, alr, afZ⟩
def akQ : Fx := AF0 []
theorem zQ : AX oo := Afs (F := akQ) (fn := Tryz.f361) (m := []) (ag trivial) Tryz.func361 trivial
def ajL : Shape := ⟨[(0, .dat am)], []⟩
def ajY : Shape := ⟨[(0, DB)], []⟩
def mI : Ent := ⟨369, ajL, ajY, aek⟩
def aj8 : Fx := AF0 [abi, aeV]
theorem yW : AX mI := Afs (F := aj8) (fn := Tryz.f369) (m := []) (ag ⟨aho, aoK, trivial⟩) Tryz.func369 trivial
def alp : Shape := ⟨[(0, .dat am)], []⟩
def al1 : Shape := ⟨[(0, .dat am)], []⟩
def o8 : Ent := ⟨367, alp, al1, agj⟩
def akZ : Fx := AF0 []
theorem aaa : AX o8 := Afs (F := akZ) (fn := Tryz.f367) (m := []) (ag trivial) Tryz.func367 trivial
def ax8 : Shape := ⟨[(0, .dat am)], []⟩
def axX : Shape := ⟨[(0, DB)], []⟩
def acv : Ent := ⟨58, ax8, axX, aoi⟩
noncomputable def axq : Fx := bj Acx (a3M Acx (av [pX, rU, pS, rS, ov, pT, o6, pU, mD, oo, mI, o8]) 110 Tryz.f110 (av [pX, rU, pS, rS, ov, pT, o6, pU, mD, oo, mI, o8])) (fun k st => .fail) 0
theorem alQ : AX acv := Afs (F := axq) (fn := Tryz.f58) (m := []) (acE (by kernel_rfl) (ahm (F := (bj Acx (av [pX, rU, pS, rS, ov, pT, o6, pU, mD, oo, mI, o8]) (fun _ _ => .fail) 0)) gZ (ag ⟨abX, aeh, abS, aee, zV, abT, zY, abU, yO, zQ, yW, aaa, trivial⟩) bC Tryz.func110 (by kernel_rfl) (by kernel_rfl) (by kernel_rfl)) (ag ⟨abX, aeh, abS, aee, zV, abT, zY, abU, yO, zQ, yW, aaa, trivial⟩)) Tryz.func58 trivial
def afw : Lp := ⟨⟨[(4, .ptr 0 aq 0 []), (6, .ptr 1 aq 0 []), (7, .own (.int .i64) 2)], [.box 32 aq (.agg [(.dat (.list aN))]), .box 32 aq (.agg [(.own aN 3)]), .arr 3 (.int .i64) false, .arr 87 aN false]⟩, (.exit 0), ⟨[(4, .ptr 0 aq 0 []), (6, .ptr 1 aq 0 [])], [.box 32 aq (.agg [(.dat (.list aN))]), .box 32 aq (.agg [(.own aN 2)]), .arr 87 aN false]⟩, (.exit 80000000), ⟨[], []⟩⟩
def axC : Shape := ⟨[(0, .dat aq), (1, DI)], []⟩
def ayb : Shape := ⟨[(0, .dat aq), (1, DI)], []⟩
def akI : Ent := ⟨64, axC, ayb, aoo⟩
def ac4 : Fx := bj Acx (av [xu, aay]) (fun k st => bif Nat.beq k 0 then afw.go amh 0 st else .fail) 0
theorem amg : aC Tryz.prog (ac4).Γ := ag ⟨acW, aiU, trivial⟩
theorem awq : aJ Tryz.prog ac4 Tryz.f64.ntmps 0 (al (ah Tryz.f64) 0) := Als (L := afw) (b := amf) (m := []) amg trivial
theorem ayR : AX akI := Afs (F := ac4) (fn := Tryz.f64) (m := [(0, al (ah Tryz.f64) 0)]) amg Tryz.func64 ⟨awq, trivial⟩
def vm : Shape := ⟨[(0, .dat (.list am))], []⟩
def vn : Shape := ⟨[(0, .clip am)], []⟩
def lD : Ent := ⟨62, vm, vn, oA⟩
def vl : Fx := AF0 []
theorem vB : AX lD := Afs (F := vl) (fn := Tryz.f62) (m := []) (ag trivial) Tryz.func62 trivial
def wi : Shape := ⟨[(0, .dat bo), (1, .dat am)], []⟩
def wl : Shape := ⟨[(0, .dat bo), (1, DI)], []⟩
def azm : Ent := ⟨15, wi, wl, aus⟩
def azs : Fx := AF0 [mw, kL, acu, aeX, acv, akI, lD]
theorem a06 : EntOK Tryz.prog azm := Afk (F := azs) (fn := Tryz.f15) (m := []) (ag ⟨sV, q9, alP, aoZ, alQ, ayR, vB, trivial⟩) Tryz.func15 trivial
def adS : Lp := ⟨⟨[(0, .dat (.list af)), (1, .dat (.list af)), (5, DI)], []⟩, .ret, ⟨[(4, DB)], []⟩, (.exit 0), ⟨[], []⟩⟩
def rm : Shape := ⟨[(0, .dat (.list af)), (1, .dat (.list af))], []⟩
def ru : Shape := ⟨[(0, DB)], []⟩
def au2 : Ent := ⟨29, rm, ru, ak3⟩
def aaB : Fx := bj Acx (av []) (fun k st => bif Nat.beq k 0 then adS.go ajh 0 st else .fail) 0
theorem ajg : aC Tryz.prog (aaB).Γ := ag trivial
theorem atB : aJ Tryz.prog aaB Tryz.f29.ntmps 0 (al (ah Tryz.f29) 0) := Als (L := adS) (b := ajf) (m := []) ajg trivial
theorem awx : EntOK Tryz.prog au2 := Afk (F := aaB) (fn := Tryz.f29) (m := [(0, al (ah Tryz.f29) 0)]) ajg Tryz.func29 ⟨atB, trivial⟩
def lH : Shape := ⟨[(0, .dat aq), (1, DI), (2, .dat ac), (3, DI)], []⟩
def lJ : Shape := ⟨[(0, DI)], []⟩
def pY (tree_height_r : (aj × Int × aa × Int × Unit) -> Option (Int × Unit)) : Ent := ⟨91, lH, lJ, tree_height_r⟩
def y5 : Lp := ⟨⟨[(9, .own aY 0), (10, DI), (11, DI)], [.arr 93 aY false]⟩, .ret, ⟨[(2, DB)], []⟩, (.exit 0), ⟨[], []⟩⟩
def anp : Shape := ⟨[(0, .dat aH)], []⟩
def anE : Shape := ⟨[(0, DB)], []⟩
def abk : Ent := ⟨182, anp, anE, aiO⟩
def vj : Fx := bj Acx (av []) (fun k st => bif Nat.beq k 0 then y5.go acd 0 st else .fail) 0
theorem acb : aC Tryz.prog (vj).Γ := ag trivial
theorem alZ : aJ Tryz.prog vj Tryz.f182.ntmps 0 (al (ah Tryz.f182) 0) := Als (L := y5) (b := aca) (m := []) acb trivial
theorem aol : AX abk := Afs (F := vj) (fn := Tryz.f182) (m := [(0, al (ah Tryz.f182) 0)]) acb Tryz.func182 ⟨alZ, trivial⟩
def ab8 : Lp := ⟨⟨[(0, .dat (.list af)), (3, DI)], []⟩, .ret, ⟨[(2, DB)], []⟩, (.exit 0), ⟨[], []⟩⟩
def arN : Shape := ⟨[(0, .dat (.list af))], []⟩
def ass : Shape := ⟨[(0, DB)], []⟩
def afn : Ent := ⟨180, arN, ass, apo⟩
def yx : Fx := bj Acx (av []) (fun k st => bif Nat.beq k 0 then ab8.go agW 0 st else .fail) 0
theorem agV : aC Tryz.prog (yx).Γ := ag trivial
theorem aqJ : aJ Tryz.prog yx Tryz.f180.ntmps 0 (al (ah Tryz.f180) 0) := Als (L := ab8) (b := agU) (m := []) agV trivial
theorem aul : AX afn := Afs (F := yx) (fn := Tryz.f180) (m := [(0, al (ah Tryz.f180) 0)]) agV Tryz.func180 ⟨aqJ, trivial⟩
def ano : Shape := ⟨[(0, .dat af)], []⟩
def anD : Shape := ⟨[(0, DB)], []⟩
def abj : Ent := ⟨179, ano, anD, aiN⟩
def amR : Fx := AF0 []
theorem aok : AX abj := Afs (F := amR) (fn := Tryz.f179) (m := []) (ag trivial) Tryz.func179 trivial
def apE : Shape := ⟨[(0, .dat af), (1, .ptr 0 ac 0 [])], [.box 39 ac (.dat ac)]⟩
def apX : Shape := ⟨[(0, DB)], [.box 39 ac (.dat ac)]⟩
def adA : Ent := ⟨178, apE, apX, alX⟩
def apy : Fx := bj Acx (av [oO, abj]) (fun k st => .fail) 1
theorem aqv : AX adA := Afs (F := apy) (fn := Tryz.f178) (m := []) (ag ⟨tb, aok, trivial⟩) Tryz.func178 trivial
def eR : Lp := ⟨⟨[(0, .dat (.list af)), (1, .fn 178 [] [(.ptr 0 ac 0 [])]), (7, DI), (8, DI)], [.box 39 ac (.dat ac)]⟩, .ret, ⟨[(4, DI)], [.box 39 ac (.dat ac)]⟩, (.exit 0), ⟨[], [.box 39 ac (.dat ac)]⟩⟩
def n8 : Shape := ⟨[(0, .dat (.list af)), (1, .fn 178 [] [(.ptr 0 ac 0 [])])], [.box 39 ac (.dat ac)]⟩
def nI : Shape := ⟨[(0, DI)], [.box 39 ac (.dat ac)]⟩
def fF : Ent := ⟨219, n8, nI, iE⟩
def cw : Fx := bj Acx (av [adA]) (fun k st => bif Nat.beq k 0 then eR.go fY 1 st else .fail) 1
theorem fX : aC Tryz.prog (cw).Γ := ag ⟨aqv, trivial⟩
theorem mW : aJ Tryz.prog cw Tryz.f219.ntmps 0 (al (ah Tryz.f219) 0) := Als (L := eR) (b := fW) (m := []) fX trivial
theorem nU : AX fF := Afs (F := cw) (fn := Tryz.f219) (m := [(0, al (ah Tryz.f219) 0)]) fX Tryz.func219 ⟨mW, trivial⟩
def n7 : Shape := ⟨[(0, .dat (.list af)), (1, .fn 178 [] [(.ptr 0 ac 0 [])])], [.box 39 ac (.dat ac)]⟩
def nH : Shape := ⟨[(0, DB)], [.box 39 ac (.dat ac)]⟩
def fE : Ent := ⟨181, n7, nH, iA⟩
def nv : Fx := bj Acx (av [fF]) (fun k st => .fail) 1
theorem nS : AX fE := Afs (F := nv) (fn := Tryz.f181) (m := []) (ag ⟨nU, trivial⟩) Tryz.func181 trivial
def anl : Shape := ⟨[(0, .dat am)], []⟩
def anA : Shape := ⟨[(0, .dat (.list ac))], []⟩
def pW : Ent := ⟨321, anl, anA, aiF⟩
def amO : Fx := AF0 []
theorem abW : AX pW := Afs (F := amO) (fn := Tryz.f321) (m := []) (ag trivial) Tryz.func321 trivial
def ang : Shape := ⟨[(0, .dat am)], []⟩
def an5 : Shape := ⟨[(0, .dat (.list ac))], []⟩
def pR : Ent := ⟨334, ang, an5, aiA⟩
def amJ : Fx := AF0 []
theorem abR : AX pR := Afs (F := amJ) (fn := Tryz.f334) (m := []) (ag trivial) Tryz.func334 trivial
def ali : Shape := ⟨[(0, .dat am)], []⟩
def alv : Shape := ⟨[(0, .dat (.list ac))], []⟩
def ou : Ent := ⟨345, ali, alv, agc⟩
def akT : Fx := AF0 []
theorem zU : AX ou := Afs (F := akT) (fn := Tryz.f345) (m := []) (ag trivial) Tryz.func345 trivial
def alm : Shape := ⟨[(0, .dat am)], []⟩
def aly : Shape := ⟨[(0, .own ac 0)], [.arr 39 ac false]⟩
def oz : Ent := ⟨352, alm, aly, agf⟩
def akW : Fx := AF0 [dI]
theorem zX : AX oz := Afs (F := akW) (fn := Tryz.f352) (m := []) (ag ⟨fg, trivial⟩) Tryz.func352 trivial
def ajF : Shape := ⟨[(0, .dat am)], []⟩
def ajS : Shape := ⟨[(0, .own ac 0)], [.arr 39 ac false]⟩
def mC : Ent := ⟨362, ajF, ajS, aec⟩
def aj3 : Fx := AF0 [dI]
theorem yN : AX mC := Afs (F := aj3) (fn := Tryz.f362) (m := []) (ag ⟨fg, trivial⟩) Tryz.func362 trivial
def ajK : Shape := ⟨[(0, .dat am)], []⟩
def ajX : Shape := ⟨[(0, .own ac 0)], [.arr 39 ac false]⟩
def mH : Ent := ⟨368, ajK, ajX, aej⟩
def aj7 : Fx := AF0 []
theorem yV : AX mH := Afs (F := aj7) (fn := Tryz.f368) (m := []) (ag trivial) Tryz.func368 trivial
def ax7 : Shape := ⟨[(0, .dat am)], []⟩
def axW : Shape := ⟨[(0, .dat (.list ac))], []⟩
def akF : Ent := ⟨187, ax7, axW, awW⟩
noncomputable def axp : Fx := bj Acx (a3M Acx (av [pW, pR, ou, oz, mC, mH]) 110 Tryz.f110 (av [pW, pR, ou, oz, mC, mH])) (fun k st => .fail) 0
theorem ayG : AX akF := Afs (F := axp) (fn := Tryz.f187) (m := []) (acE (by kernel_rfl) (ahm (F := (bj Acx (av [pW, pR, ou, oz, mC, mH]) (fun _ _ => .fail) 0)) gZ (ag ⟨abW, abR, zU, zX, yN, yV, trivial⟩) bC Tryz.func110 (by kernel_rfl) (by kernel_rfl) (by kernel_rfl)) (ag ⟨abW, abR, zU, zX, yN, yV, trivial⟩)) Tryz.func187 trivial
def arH : Shape := ⟨[(0, .dat ac), (1, .dat ac)], []⟩
def asl : Shape := ⟨[(0, DB)], []⟩
def afj : Ent := ⟨184, arH, asl, apk⟩
def arp : Fx := AF0 [oO, gY, lA]
theorem atY : AX afj := Afs (F := arp) (fn := Tryz.f184) (m := []) (ag ⟨tb, jD, rh, trivial⟩) Tryz.func184 trivial
def apF : Shape := ⟨[(0, .dat ac), (1, .ptr 0 ac 0 [])], [.box 39 ac (.dat ac)]⟩
def apY : Shape := ⟨[(0, DB)], [.box 39 ac (.dat ac)]⟩
def wN : Ent := ⟨183, apF, apY, acS⟩
def apz : Fx := bj Acx (av [afj]) (fun k st => .fail) 1
theorem ael : AX wN := Afs (F := apz) (fn := Tryz.f183) (m := []) (ag ⟨atY, trivial⟩) Tryz.func183 trivial
def eV : Lp := ⟨⟨[(0, .dat (.list ac)), (1, .fn 183 [] [(.ptr 0 ac 0 [])]), (7, DI), (8, DI)], [.box 39 ac (.dat ac)]⟩, .ret, ⟨[(4, DI)], [.box 39 ac (.dat ac)]⟩, (.exit 0), ⟨[], [.box 39 ac (.dat ac)]⟩⟩
def nB : Shape := ⟨[(0, .dat (.list ac)), (1, .fn 183 [] [(.ptr 0 ac 0 [])])], [.box 39 ac (.dat ac)]⟩
def nL : Shape := ⟨[(0, DI)], [.box 39 ac (.dat ac)]⟩
def fI : Ent := ⟨116, nB, nL, iN⟩
def cA : Fx := bj Acx (av [wN]) (fun k st => bif Nat.beq k 0 then eV.go gk 1 st else .fail) 1
theorem gj : aC Tryz.prog (cA).Γ := ag ⟨ael, trivial⟩
theorem mZ : aJ Tryz.prog cA Tryz.f116.ntmps 0 (al (ah Tryz.f116) 0) := Als (L := eV) (b := gi) (m := []) gj trivial
theorem nX : AX fI := Afs (F := cA) (fn := Tryz.f116) (m := [(0, al (ah Tryz.f116) 0)]) gj Tryz.func116 ⟨mZ, trivial⟩
def me : Shape := ⟨[(0, .dat (.list ac)), (1, .fn 183 [] [(.ptr 0 ac 0 [])])], [.box 39 ac (.dat ac)]⟩
def mi : Shape := ⟨[(0, DB)], [.box 39 ac (.dat ac)]⟩
def eL : Ent := ⟨71, me, mi, fU⟩
def ma : Fx := bj Acx (av [fI]) (fun k st => .fail) 1
theorem mr : AX eL := Afs (F := ma) (fn := Tryz.f71) (m := []) (ag ⟨nX, trivial⟩) Tryz.func71 trivial
def alo : Shape := ⟨[(0, .dat am)], []⟩
def al0 : Shape := ⟨[(0, .own ac 0)], [.arr 39 ac false]⟩
def o7 : Ent := ⟨324, alo, al0, agi⟩
def akY : Fx := AF0 [vX]
theorem zZ : AX o7 := Afs (F := akY) (fn := Tryz.f324) (m := []) (ag ⟨aaj, trivial⟩) Tryz.func324 trivial

end D
/- Entries, by program. -/
open Go Go.X Go.Proofs D
namespace D
def alg : Shape := ⟨[(0, .dat am)], []⟩
def als : Shape := ⟨[(0, .own ac 0)], [.arr 39 ac false]⟩
def oq : Ent := ⟨337, alg, als, aga⟩
def akR : Fx := AF0 [vX]
theorem zR : AX oq := Afs (F := akR) (fn := Tryz.f337) (m := []) (ag ⟨aaj, trivial⟩) Tryz.func337 trivial
def ajH : Shape := ⟨[(0, .dat am)], []⟩
def ajU : Shape := ⟨[(0, .own ac 0)], [.arr 39 ac false]⟩
def mE : Ent := ⟨348, ajH, ajU, aef⟩
def aj5 : Fx := AF0 []
theorem yP : AX mE := Afs (F := aj5) (fn := Tryz.f348) (m := []) (ag trivial) Tryz.func348 trivial
def ajI : Shape := ⟨[(0, .dat am)], []⟩
def ajV : Shape := ⟨[(0, .own ac 0)], [.arr 39 ac false]⟩
def mF : Ent := ⟨355, ajI, ajV, aeg⟩
def aj6 : Fx := AF0 [dI]
theorem yQ : AX mF := Afs (F := aj6) (fn := Tryz.f355) (m := []) (ag ⟨fg, trivial⟩) Tryz.func355 trivial
def ah8 : Shape := ⟨[(0, .dat am)], []⟩
def ahD : Shape := ⟨[(0, .own ac 0)], [.arr 39 ac false]⟩
def l7 : Ent := ⟨365, ah8, ahD, abP⟩
def ah3 : Fx := AF0 [dI]
theorem xn : AX l7 := Afs (F := ah3) (fn := Tryz.f365) (m := []) (ag ⟨fg, trivial⟩) Tryz.func365 trivial
def ah9 : Shape := ⟨[(0, .dat am)], []⟩
def ahE : Shape := ⟨[(0, .own ac 0)], [.arr 39 ac false]⟩
def l9 : Ent := ⟨371, ah9, ahE, abY⟩
def ah4 : Fx := AF0 []
theorem xp : AX l9 := Afs (F := ah4) (fn := Tryz.f371) (m := []) (ag trivial) Tryz.func371 trivial
def auT : Shape := ⟨[(0, .dat am)], []⟩
def av2 : Shape := ⟨[(0, .own ac 0)], [.arr 39 ac false]⟩
def aib : Ent := ⟨72, auT, av2, ath⟩
noncomputable def au4 : Fx := bj Acx (a3M Acx (av [o7, oq, mE, mF, l7, l9]) 110 Tryz.f110 (av [o7, oq, mE, mF, l7, l9])) (fun k st => .fail) 0
theorem awi : AX aib := Afs (F := au4) (fn := Tryz.f72) (m := []) (acE (by kernel_rfl) (ahm (F := (bj Acx (av [o7, oq, mE, mF, l7, l9]) (fun _ _ => .fail) 0)) gZ (ag ⟨zZ, zR, yP, yQ, xn, xp, trivial⟩) bC Tryz.func110 (by kernel_rfl) (by kernel_rfl) (by kernel_rfl)) (ag ⟨zZ, zR, yP, yQ, xn, xp, trivial⟩)) Tryz.func72 trivial
def eW : Lp := ⟨⟨[(0, .own ac 0), (1, .fn 183 [] [(.ptr 1 ac 0 [])]), (7, DI), (8, DI)], [.arr 39 ac false, .box 39 ac (.dat ac)]⟩, .ret, ⟨[(4, DI)], [.arr 39 ac false, .box 39 ac (.dat ac)]⟩, (.exit 0), ⟨[], [.arr 39 ac false, .box 39 ac (.dat ac)]⟩⟩
def nC : Shape := ⟨[(0, .own ac 0), (1, .fn 183 [] [(.ptr 1 ac 0 [])])], [.arr 39 ac false, .box 39 ac (.dat ac)]⟩
def nM : Shape := ⟨[(0, DI)], [.arr 39 ac false, .box 39 ac (.dat ac)]⟩
def fJ : Ent := ⟨116, nC, nM, iO⟩
def cB : Fx := bj Acx (av [wN]) (fun k st => bif Nat.beq k 0 then eW.go gn 2 st else .fail) 2
theorem gm : aC Tryz.prog (cB).Γ := ag ⟨ael, trivial⟩
theorem nc : aJ Tryz.prog cB Tryz.f116.ntmps 0 (al (ah Tryz.f116) 0) := Als (L := eW) (b := gl) (m := []) gm trivial
theorem nY : AX fJ := Afs (F := cB) (fn := Tryz.f116) (m := [(0, al (ah Tryz.f116) 0)]) gm Tryz.func116 ⟨nc, trivial⟩
def mf : Shape := ⟨[(0, .own ac 0), (1, .fn 183 [] [(.ptr 1 ac 0 [])])], [.arr 39 ac false, .box 39 ac (.dat ac)]⟩
def mj : Shape := ⟨[(0, DB)], [.arr 39 ac false, .box 39 ac (.dat ac)]⟩
def eM : Ent := ⟨71, mf, mj, fV⟩
def mb : Fx := bj Acx (av [fJ]) (fun k st => .fail) 2
theorem mt : AX eM := Afs (F := mb) (fn := Tryz.f71) (m := []) (ag ⟨nY, trivial⟩) Tryz.func71 trivial
def apG : Shape := ⟨[(0, .dat am), (1, .ptr 0 .opq 0 [])], [.box 132 .opq (.fn 183 [] [(.ptr 1 ac 0 [])]), .box 39 ac (.dat ac)]⟩
def apZ : Shape := ⟨[(0, DB)], [.box 132 .opq (.fn 183 [] [(.ptr 1 ac 0 [])]), .box 39 ac (.dat ac)]⟩
def adB : Ent := ⟨186, apG, apZ, alY⟩
def ap0 : Fx := bj Acx (av [acv, akF, eL, aib, eM]) (fun k st => .fail) 2
theorem aqw : AX adB := Afs (F := ap0) (fn := Tryz.f186) (m := []) (ag ⟨alQ, ayG, mr, awi, mt, trivial⟩) Tryz.func186 trivial
def iw : Lp := ⟨⟨[(0, .dat (.list am)), (1, .fn 186 [] [(.ptr 0 .opq 0 [])]), (7, DI), (8, DI)], [.box 132 .opq (.fn 183 [] [(.ptr 1 ac 0 [])]), .box 39 ac (.dat ac)]⟩, .ret, ⟨[(4, DI)], [.box 132 .opq (.fn 183 [] [(.ptr 1 ac 0 [])]), .box 39 ac (.dat ac)]⟩, (.exit 0), ⟨[], [.box 132 .opq (.fn 183 [] [(.ptr 1 ac 0 [])]), .box 39 ac (.dat ac)]⟩⟩
def rn : Shape := ⟨[(0, .dat (.list am)), (1, .fn 186 [] [(.ptr 0 .opq 0 [])])], [.box 132 .opq (.fn 183 [] [(.ptr 1 ac 0 [])]), .box 39 ac (.dat ac)]⟩
def rv : Shape := ⟨[(0, DI)], [.box 132 .opq (.fn 183 [] [(.ptr 1 ac 0 [])]), .box 39 ac (.dat ac)]⟩
def jo : Ent := ⟨115, rn, rv, kS⟩
def dJ : Fx := bj Acx (av [adB]) (fun k st => bif Nat.beq k 0 then iw.go jx 2 st else .fail) 2
theorem jv : aC Tryz.prog (dJ).Γ := ag ⟨aqw, trivial⟩
theorem qW : aJ Tryz.prog dJ Tryz.f115.ntmps 0 (al (ah Tryz.f115) 0) := Als (L := iw) (b := ju) (m := []) jv trivial
theorem rI : AX jo := Afs (F := dJ) (fn := Tryz.f115) (m := [(0, al (ah Tryz.f115) 0)]) jv Tryz.func115 ⟨qW, trivial⟩
def oW : Shape := ⟨[(0, .dat (.list am)), (1, .fn 186 [] [(.ptr 0 .opq 0 [])])], [.box 132 .opq (.fn 183 [] [(.ptr 1 ac 0 [])]), .box 39 ac (.dat ac)]⟩
def pg : Shape := ⟨[(0, DB)], [.box 132 .opq (.fn 183 [] [(.ptr 1 ac 0 [])]), .box 39 ac (.dat ac)]⟩
def hK : Ent := ⟨185, oW, pg, jr⟩
def oR : Fx := bj Acx (av [jo]) (fun k st => .fail) 2
theorem pA : AX hK := Afs (F := oR) (fn := Tryz.f185) (m := []) (ag ⟨rI, trivial⟩) Tryz.func185 trivial
def adM : Lp := ⟨⟨[(2, .ptr 0 a8 0 []), (3, .ptr 1 ac 0 []), (6, DS), (67, .dat (.list .str)), (68, DI), (69, DI)], [.box 85 a8 (.dat a8), .box 39 ac (.dat ac)]⟩, .ret, ⟨[(4, DB)], []⟩, (.exit 0), ⟨[(2, .ptr 0 a8 0 []), (3, .ptr 1 ac 0 [])], [.box 85 a8 (.dat a8), .box 39 ac (.dat ac)]⟩⟩
def adN : Lp := ⟨⟨[(2, .ptr 0 a8 0 []), (3, .ptr 1 ac 0 []), (90, .dat (.list (.int .i64))), (91, DI), (92, DI)], [.box 85 a8 (.dat a8), .box 39 ac (.dat ac)]⟩, .ret, ⟨[(4, DB)], []⟩, (.exit 2), ⟨[(2, .ptr 0 a8 0 []), (3, .ptr 1 ac 0 [])], [.box 85 a8 (.dat a8), .box 39 ac (.dat ac)]⟩⟩
def auX : Shape := ⟨[(0, .dat a8), (1, .dat ac)], []⟩
def av6 : Shape := ⟨[(0, DB)], []⟩
def aid : Ent := ⟨148, auX, av6, atj⟩
def vJ : Fx := bj Acx (av [abk, afn, fE, hK]) (fun k st => bif Nat.beq k 0 then adM.go aiL 0 st else bif Nat.beq k 2 then adN.go aiM 0 st else .fail) 0
theorem aaO : aC Tryz.prog (vJ).Γ := ag ⟨aol, aul, nS, pA, trivial⟩
theorem atk : aJ Tryz.prog vJ Tryz.f148.ntmps 0 (al (ah Tryz.f148) 0) := Als (L := adM) (b := aiJ) (m := []) aaO trivial
theorem atm : aJ Tryz.prog vJ Tryz.f148.ntmps 2 (al (ah Tryz.f148) 1) := Als (L := adN) (b := aiK) (m := []) aaO trivial
theorem awn : AX aid := Afs (F := vJ) (fn := Tryz.f148) (m := [(0, al (ah Tryz.f148) 0), (2, al (ah Tryz.f148) 1)]) aaO Tryz.func148 ⟨atk, atm, trivial⟩
def auV : Shape := ⟨[(0, .ptr 0 aH 0 [0]), (1, DI), (2, DI)], [.box 95 aH (.agg [(.agg [DI, DI]), (.agg [DI, DI])])]⟩
def av4 : Shape := ⟨[], [.box 95 aH (.agg [(.agg [DI, DI]), (.agg [DI, DI])])]⟩
def aaw : Ent := ⟨189, auV, av4, vv⟩
def au6 : Fx := bj Acx (av []) (fun k st => .fail) 1
theorem aiI : AX aaw := Afs (F := au6) (fn := Tryz.f189) (m := []) (ag trivial) Tryz.func189 trivial
def ann : Shape := ⟨[(0, .ptr 0 aH 0 [1]), (1, DI), (2, DI)], [.box 95 aH (.agg [(.agg [DI, DI]), (.agg [DI, DI])])]⟩
def anC : Shape := ⟨[], [.box 95 aH (.agg [(.agg [DI, DI]), (.agg [DI, DI])])]⟩
def vh : Ent := ⟨189, ann, anC, nk⟩
def amQ : Fx := bj Acx (av []) (fun k st => .fail) 1
theorem abZ : AX vh := Afs (F := amQ) (fn := Tryz.f189) (m := []) (ag trivial) Tryz.func189 trivial
def tB : Shape := ⟨[(0, DS), (1, .dat (.int .u8))], []⟩
def tH : Shape := ⟨[(0, DI)], []⟩
def cj : Ent := ⟨297, tB, tH, gF⟩
set_option maxHeartbeats 1000000 in
theorem qS (a : ByteArray) (c : Int) (w : World) : Calls Tryz.prog 297 #[.string a, .int .u8 c] w fun e w' => e = .returned (.int .i64 (Lib.indexByte a.data.toList c.toNat.toUInt8)) /\ w' = w := by
  go_enter Tryz.func297, Tryz.ntmps297
  go_wp2
  rw [run_callFunc_extern Tryz.func301 (by kernel_rfl) (by kernel_rfl) (by kernel_rfl) (e := Extern.BytealgIndexByte.indexByte) (by kernel_rfl), Lib.run_indexByteString]
  simp only [Result.andThen]
  rw [Oper.upon_value]
  go_wp2
  go_ret
  exact ⟨rfl, rfl⟩
theorem tN : EntOK Tryz.prog cj := a4n (g := fun a c => Lib.indexByte a c.toNat.toUInt8) Tryz.func297 (by kernel_rfl) qS
theorem kE : AX cj := tN.x (by kernel_rfl)
def af7 : Shape := ⟨[(0, DS), (1, .dat (.int .u8))], []⟩
def afD : Shape := ⟨[(0, DI)], []⟩
def vY : Ent := ⟨288, af7, afD, aam⟩
def afs : Fx := AF0 [cj]
theorem agM : AX vY := Afs (F := afs) (fn := Tryz.f288) (m := []) (ag ⟨kE, trivial⟩) Tryz.func288 trivial
def zD : Shape := ⟨[(0, .dat (.int .i32))], []⟩
def zE : Shape := ⟨[(0, DB)], []⟩
def qA : Ent := ⟨289, zD, zE, uL⟩
def zC : Fx := AF0 []
theorem zG : AX qA := Afs (F := zC) (fn := Tryz.f289) (m := []) (ag trivial) Tryz.func289 trivial
def uf : Lp := ⟨⟨[(175, .ptr 0 .unit 0 [])], [.iter]⟩, .ret, ⟨[(4, DI)], []⟩, (.exit 9), ⟨[], []⟩⟩
def af9 : Shape := ⟨[(0, DS), (1, .dat (.int .i32))], []⟩
def afF : Shape := ⟨[(0, DI)], []⟩
def wc : Ent := ⟨271, af9, afF, oC⟩
def cR : Fx := bj Acx (av [vY, qA]) (fun k st => bif Nat.beq k 9 then uf.go wC 0 st else .fail) 0
theorem wA : aC Tryz.prog (cR).Γ := ag ⟨agM, zG, trivial⟩
theorem aeJ : aJ Tryz.prog cR Tryz.f271.ntmps 1 (al (ah Tryz.f271) 1) := abM (fun _ => rfl)
theorem aeK : aJ Tryz.prog cR Tryz.f271.ntmps 3 (al (ah Tryz.f271) 2) := abM (fun _ => rfl)
theorem aeL : aJ Tryz.prog cR Tryz.f271.ntmps 5 (al (ah Tryz.f271) 3) := abM (fun _ => rfl)
theorem aeM : aJ Tryz.prog cR Tryz.f271.ntmps 7 (al (ah Tryz.f271) 4) := abM (fun _ => rfl)
theorem aeI : aJ Tryz.prog cR Tryz.f271.ntmps 9 (al (ah Tryz.f271) 0) := Als (L := uf) (b := w9) (m := []) wA trivial
theorem agO : AX wc := Afs (F := cR) (fn := Tryz.f271) (m := [(9, al (ah Tryz.f271) 0), (1, al (ah Tryz.f271) 1), (3, al (ah Tryz.f271) 2), (5, al (ah Tryz.f271) 3), (7, al (ah Tryz.f271) 4)]) wA Tryz.func271 ⟨aeI, aeJ, aeK, aeL, aeM, trivial⟩
def wV : Shape := ⟨[(0, DI)], []⟩
def wW : Shape := ⟨[(0, DB)], []⟩
def mQ : Ent := ⟨272, wV, wW, qF⟩
def wU : Fx := AF0 []
theorem xg : AX mQ := Afs (F := wU) (fn := Tryz.f272) (m := []) (ag trivial) Tryz.func272 trivial
def sM : Lp := ⟨⟨[(1, DS), (45, .ptr 0 .unit 0 [])], [.iter]⟩, .ret, ⟨[(4, DI)], []⟩, (.exit 2), ⟨[], []⟩⟩
def ae7 : Shape := ⟨[(0, DS), (1, DS)], []⟩
def aeB : Shape := ⟨[(0, DI)], []⟩
def ae1 : Ent := ⟨254, ae7, aeB, sE⟩
def kA : Fx := bj Acx (av [wc, mQ]) (fun k st => bif Nat.beq k 2 then sM.go uV 0 st else .fail) 0
theorem uU : aC Tryz.prog (kA).Γ := ag ⟨agO, xg, trivial⟩
theorem adv : aJ Tryz.prog kA Tryz.f254.ntmps 0 (al (ah Tryz.f254) 0) := abM (fun _ => rfl)
theorem adw : aJ Tryz.prog kA Tryz.f254.ntmps 2 (al (ah Tryz.f254) 1) := Als (L := sM) (b := uT) (m := []) uU trivial
theorem aeH : EntOK Tryz.prog ae1 := Afk (F := kA) (fn := Tryz.f254) (m := [(0, al (ah Tryz.f254) 0), (2, al (ah Tryz.f254) 1)]) uU Tryz.func254 ⟨adv, adw, trivial⟩
def xj : Shape := ⟨[(0, DS), (1, DS)], []⟩
def xk : Shape := ⟨[(0, DI)], []⟩
def qI : Ent := ⟨254, xj, xk, acm⟩
theorem ahV : EntOK Tryz.prog qI := a4m (f := 254) (S := xj) (Z := xk) (g1 := sE) (g2 := al5) aeH (ay6 Tryz.lays153 (by kernel_rfl) Tryz.func254 (by kernel_rfl))
theorem ahW : AX qI := ahV.x (by kernel_rfl)
def alq : Shape := ⟨[(0, .ptr 0 pJ 0 [0])], [.box 269 pJ (.agg [(.agg [DS]), (.agg [DS, DI, DI, DS])])]⟩
def al2 : Shape := ⟨[(0, DS), (1, .dat (.int .u8))], [.box 269 pJ (.agg [(.agg [DS]), (.agg [DS, DI, DI, DS])])]⟩
def zH : Ent := ⟨241, alq, al2, agq⟩
def ala : Fx := bj Acx (av [qI]) (fun k st => .fail) 1
theorem amd : AX zH := Afs (F := ala) (fn := Tryz.f241) (m := []) (ag ⟨ahW, trivial⟩) Tryz.func241 trivial
def ajM : Shape := ⟨[(0, .ptr 0 pJ 0 [])], [.box 269 pJ (.agg [(.agg [DS]), (.agg [DS, DI, DI, DS])])]⟩
def ajZ : Shape := ⟨[], [.box 269 pJ (.agg [(.agg [DS]), (.agg [DS, DI, DI, DS])])]⟩
def xZ : Ent := ⟨224, ajM, ajZ, aem⟩
def aj9 : Fx := bj Acx (av [oP, zH]) (fun k st => .fail) 1
theorem akw : AX xZ := Afs (F := aj9) (fn := Tryz.f224) (m := []) (ag ⟨w7, amd, trivial⟩) Tryz.func224 trivial
def wh : Shape := ⟨[(0, DS), (1, DS)], []⟩
def wk : Shape := ⟨[(0, DI)], []⟩
def mu : Ent := ⟨292, wh, wk, pn⟩
def mz : Fx := AF0 [cj]
theorem vq : aJ Tryz.prog mz Tryz.f292.ntmps 1 (al (ah Tryz.f292) 0) := abM (fun _ => rfl)
theorem wq : AX mu := Afs (F := mz) (fn := Tryz.f292) (m := [(1, al (ah Tryz.f292) 0)]) (ag ⟨kE, trivial⟩) Tryz.func292 ⟨vq, trivial⟩
def xz : Shape := ⟨[(0, DS), (1, DS)], []⟩
def x5 : Shape := ⟨[(0, DS), (1, DS), (2, DB)], []⟩
def om : Ent := ⟨275, xz, x5, rB⟩
def xx : Fx := AF0 [mu]
theorem xA : AX om := Afs (F := xx) (fn := Tryz.f275) (m := []) (ag ⟨wq, trivial⟩) Tryz.func275 trivial
def arK : Shape := ⟨[(0, DS), (1, DS)], []⟩
def aso : Shape := ⟨[(0, DS), (1, DS), (2, DB)], []⟩
def afk : Ent := ⟨255, arK, aso, apl⟩
def ars : Fx := AF0 [om]
theorem auh : AX afk := Afs (F := ars) (fn := Tryz.f255) (m := []) (ag ⟨xA, trivial⟩) Tryz.func255 trivial
def anq : Shape := ⟨[(0, .dat (.int .i32))], []⟩
def anF : Shape := ⟨[(0, DB)], []⟩
def abl : Ent := ⟨258, anq, anF, aiT⟩
def amS : Fx := AF0 []
theorem aon : AX abl := Afs (F := amS) (fn := Tryz.f258) (m := []) (ag trivial) Tryz.func258 trivial
def ug : Lp := ⟨⟨[(1, .fn 258 [] []), (2, DB), (10, .ptr 0 .unit 0 [])], [.iter]⟩, .ret, ⟨[(6, DI)], []⟩, (.exit 0), ⟨[], []⟩⟩
def afA : Shape := ⟨[(0, DS), (1, .fn 258 [] []), (2, DB)], []⟩
def afG : Shape := ⟨[(0, DI)], []⟩
def wd : Ent := ⟨282, afA, afG, aao⟩
def oS : Fx := bj Acx (av [abl]) (fun k st => bif Nat.beq k 0 then ug.go wF 0 st else .fail) 0
theorem wE : aC Tryz.prog (oS).Γ := ag ⟨aon, trivial⟩
theorem aeN : aJ Tryz.prog oS Tryz.f282.ntmps 0 (al (ah Tryz.f282) 0) := Als (L := ug) (b := wD) (m := []) wE trivial
theorem agP : AX wd := Afs (F := oS) (fn := Tryz.f282) (m := [(0, al (ah Tryz.f282) 0)]) wE Tryz.func282 ⟨aeN, trivial⟩
def af8 : Shape := ⟨[(0, DS), (1, .fn 258 [] [])], []⟩
def afE : Shape := ⟨[(0, DI)], []⟩
def vZ : Ent := ⟨257, af8, afE, aan⟩
def aft : Fx := AF0 [wd]
theorem agN : AX vZ := Afs (F := aft) (fn := Tryz.f257) (m := []) (ag ⟨agP, trivial⟩) Tryz.func257 trivial
def ar1 : Shape := ⟨[(0, DS)], []⟩
def arV : Shape := ⟨[(0, DB)], []⟩
def xY : Ent := ⟨244, ar1, arV, ago⟩
def arf : Fx := AF0 [vZ]
theorem agp : AX xY := Afs (F := arf) (fn := Tryz.f244) (m := []) (ag ⟨agN, trivial⟩) Tryz.func244 trivial
def adO : Lp := ⟨⟨[(0, DS)], []⟩, .ret, ⟨[(2, DB)], []⟩, (.exit 0), ⟨[], []⟩⟩
def ava : Shape := ⟨[(0, DS)], []⟩
def av9 : Shape := ⟨[(0, DB)], []⟩
def aax : Ent := ⟨242, ava, av9, akv⟩
def aa7 : Fx := bj Acx (av [afk, xY]) (fun k st => bif Nat.beq k 0 then adO.go aiR 0 st else .fail) 0
theorem aiQ : aC Tryz.prog (aa7).Γ := ag ⟨auh, agp, trivial⟩
theorem atr : aJ Tryz.prog aa7 Tryz.f242.ntmps 0 (al (ah Tryz.f242) 0) := Als (L := adO) (b := aiP) (m := []) aiQ trivial
theorem aiS : AX aax := Afs (F := aa7) (fn := Tryz.f242) (m := [(0, al (ah Tryz.f242) 0)]) aiQ Tryz.func242 ⟨atr, trivial⟩
def oU : Lp := ⟨⟨[(0, DS), (1, .dat (.int .u8))], []⟩, (.exit 0), ⟨[(0, DS)], []⟩, (.exit 80000000), ⟨[], []⟩⟩
def aaI : Shape := ⟨[(0, DS), (1, .dat (.int .u8))], []⟩
def aaK : Shape := ⟨[(0, DS)], []⟩
def rk : Ent := ⟨277, aaI, aaK, uW⟩
def kZ : Fx := bj Acx (av []) (fun k st => bif Nat.beq k 0 then oU.go rQ 0 st else .fail) 0
theorem rP : aC Tryz.prog (kZ).Γ := ag trivial
theorem zF : aJ Tryz.prog kZ Tryz.f277.ntmps 0 (al (ah Tryz.f277) 0) := Als (L := oU) (b := rO) (m := []) rP trivial
theorem abb : AX rk := Afs (F := kZ) (fn := Tryz.f277) (m := [(0, al (ah Tryz.f277) 0)]) rP Tryz.func277 ⟨zF, trivial⟩
def qB : Lp := ⟨⟨[(0, DS), (1, .dat (.int .u8))], []⟩, (.exit 0), ⟨[(0, DS)], []⟩, (.exit 80000000), ⟨[], []⟩⟩
def abC : Shape := ⟨[(0, DS), (1, .dat (.int .u8))], []⟩
def abH : Shape := ⟨[(0, DS)], []⟩
def sJ : Ent := ⟨276, abC, abH, wG⟩
def lE : Fx := bj Acx (av []) (fun k st => bif Nat.beq k 0 then qB.go te 0 st else .fail) 0
theorem td : aC Tryz.prog (lE).Γ := ag trivial
theorem aba : aJ Tryz.prog lE Tryz.f276.ntmps 0 (al (ah Tryz.f276) 0) := Als (L := qB) (b := tc) (m := []) td trivial
theorem acn : AX sJ := Afs (F := lE) (fn := Tryz.f276) (m := [(0, al (ah Tryz.f276) 0)]) td Tryz.func276 ⟨aba, trivial⟩
def apR : Shape := ⟨[(0, DS), (1, DS)], []⟩
def aqk : Shape := ⟨[(0, DS)], []⟩
def adJ : Ent := ⟨256, apR, aqk, amA⟩
def ap8 : Fx := AF0 [rk, sJ]
theorem aqH : AX adJ := Afs (F := ap8) (fn := Tryz.f256) (m := []) (ag ⟨abb, acn, trivial⟩) Tryz.func256 trivial
def ar0 : Shape := ⟨[(0, DS)], []⟩
def arU : Shape := ⟨[(0, DB)], []⟩
def aeW : Ent := ⟨243, ar0, arU, aoR⟩
def ard : Fx := AF0 [adJ]
theorem ats : AX aeW := Afs (F := ard) (fn := Tryz.f243) (m := []) (ag ⟨aqH, trivial⟩) Tryz.func243 trivial
def cq : Lp := ⟨⟨[(1, .ptr 0 aE 0 []), (86, DB)], [.box 245 aE (.dat aE)]⟩, .nrm, ⟨[], []⟩, .ret, ⟨[(2, DS), (3, DI)], []⟩⟩
def cp : Lp := ⟨⟨[(1, .ptr 0 aE 0 []), (4, .ptr 1 aE 0 []), (66, DB)], [.box 245 aE (.dat aE), .box 245 aE (.agg [DS, DI, DI, DS])]⟩, .nrm, ⟨[], []⟩, .ret, ⟨[(2, DS), (3, DI)], []⟩⟩
def co : Lp := ⟨⟨[(1, .ptr 0 aE 0 []), (4, .ptr 1 aE 0 []), (35, DB)], [.box 245 aE (.dat aE), .box 245 aE (.agg [DS, DI, DI, DS])]⟩, .nrm, ⟨[], []⟩, .ret, ⟨[(2, DS), (3, DI)], []⟩⟩
def cn : Lp := ⟨⟨[(1, .ptr 0 aE 0 []), (4, .ptr 1 aE 0 []), (23, DB)], [.box 245 aE (.dat aE), .box 245 aE (.agg [DS, DI, DI, DS])]⟩, .nrm, ⟨[], []⟩, .ret, ⟨[(2, DS), (3, DI)], []⟩⟩
def cr : Lp := ⟨⟨[(1, .ptr 0 aE 0 []), (4, .ptr 1 aE 0 []), (22, DB)], [.box 245 aE (.dat aE), .box 245 aE (.agg [DS, DI, DI, DS])]⟩, .nrm, ⟨[], []⟩, .ret, ⟨[(2, DS), (3, DI)], []⟩⟩
def azw : Shape := ⟨[(0, .dat aE)], []⟩
def az3 : Shape := ⟨[(0, DS), (1, DI)], []⟩
def oN : Ent := ⟨225, azw, az3, a0q⟩
def bT : Fx := AF0 [xY, aax, aeW]
def fm : ahG := [(100010, cq.go gI 0), (100008, cp.go ew 0), (100006, co.go dg 0), (100004, cn.go gH 0), (300003, cr.go ez 0)]
theorem ahQ (s : cq.S.ty.den) : @Eq (Option cq.Out) ((evK bT fm (bI (ah Tryz.f225) 100010) 0 (cq.S.enc s)).bind fun (e, st) => cq.out (bT).m e st).val (gI s) := by kernel_rfl
theorem ahO (s : cp.S.ty.den) : @Eq (Option cp.Out) ((evK bT fm (bI (ah Tryz.f225) 100008) 0 (cp.S.enc s)).bind fun (e, st) => cp.out (bT).m e st).val (ew s) := by kernel_rfl
theorem ahM (s : co.S.ty.den) : @Eq (Option co.Out) ((evK bT fm (bI (ah Tryz.f225) 100006) 0 (co.S.enc s)).bind fun (e, st) => co.out (bT).m e st).val (dg s) := by kernel_rfl
theorem ahK (s : cn.S.ty.den) : @Eq (Option cn.Out) ((evK bT fm (bI (ah Tryz.f225) 100004) 0 (cn.S.enc s)).bind fun (e, st) => cn.out (bT).m e st).val (gH s) := by kernel_rfl
theorem ahS (s : cr.S.ty.den) : @Eq (Option cr.Out) ((evK bT fm (bI (ah Tryz.f225) 300003) 0 (cr.S.enc s)).bind fun (e, st) => cr.out (bT).m e st).val (ez s) := by kernel_rfl
theorem a0r (s : (oN).S.ty.den) : (aoI bT fm Tryz.f225 (oN).S (oN).Z s).val = (oN).g s := by kernel_rfl
theorem sU : aC Tryz.prog (bT).Γ := ag ⟨agp, aiS, ats, trivial⟩
theorem ahR : qD Tryz.prog bT Tryz.f225.ntmps (cq.go gI 0) (bI (ah Tryz.f225) 100010) :=
  fj gZ sU bC (L := cq) (k := 0) (f := gI) (C := fm) (l := []) (m := []) (by kernel_rfl) trivial (by kernel_rfl) trivial (by kernel_rfl) (bl _ (by kernel_rfl)) ahQ
theorem ahP : qD Tryz.prog bT Tryz.f225.ntmps (cp.go ew 0) (bI (ah Tryz.f225) 100008) :=
  fj gZ sU bC (L := cp) (k := 0) (f := ew) (C := fm) (l := []) (m := [(cq.go gI 0, bI (ah Tryz.f225) 100010)]) (by kernel_rfl) trivial (by kernel_rfl) ⟨ahR, trivial⟩ (by kernel_rfl) (bl _ (by kernel_rfl)) ahO
theorem ahN : qD Tryz.prog bT Tryz.f225.ntmps (co.go dg 0) (bI (ah Tryz.f225) 100006) :=
  fj gZ sU bC (L := co) (k := 0) (f := dg) (C := fm) (l := []) (m := [(cp.go ew 0, bI (ah Tryz.f225) 100008)]) (by kernel_rfl) trivial (by kernel_rfl) ⟨ahP, trivial⟩ (by kernel_rfl) (bl _ (by kernel_rfl)) ahM
theorem ahL : qD Tryz.prog bT Tryz.f225.ntmps (cn.go gH 0) (bI (ah Tryz.f225) 100004) :=
  fj gZ sU bC (L := cn) (k := 0) (f := gH) (C := fm) (l := []) (m := [(co.go dg 0, bI (ah Tryz.f225) 100006)]) (by kernel_rfl) trivial (by kernel_rfl) ⟨ahN, trivial⟩ (by kernel_rfl) (bl _ (by kernel_rfl)) ahK
theorem ahT : qD Tryz.prog bT Tryz.f225.ntmps (cr.go ez 0) (bI (ah Tryz.f225) 300003) :=
  fj gZ sU bC (L := cr) (k := 0) (f := ez) (C := fm) (l := []) (m := [(cn.go gH 0, bI (ah Tryz.f225) 100004)]) (by kernel_rfl) trivial (by kernel_rfl) ⟨ahL, trivial⟩ (by kernel_rfl) (bl _ (by kernel_rfl)) ahS
theorem a0s : EntOK Tryz.prog oN :=
  yG (C := fm) (F := bT) gZ sU bC (fn := Tryz.f225) (l := []) (m := [(cr.go ez 0, bI (ah Tryz.f225) 300003)]) Tryz.func225 (by kernel_rfl) (by kernel_rfl) (by kernel_rfl) trivial (by kernel_rfl) ⟨ahT, trivial⟩ (bl _ (by kernel_rfl)) (by kernel_rfl) a0r
theorem a0t : AX oN := (a0s).x (by kernel_rfl)
def auZ : Shape := ⟨[(0, DS)], []⟩
def av8 : Shape := ⟨[(0, .dat aE), (1, DI)], []⟩
def vG : Ent := ⟨191, auZ, av8, acV⟩
def au9 : Fx := AF0 [xZ, oN]
theorem aaR : AX vG := Afs (F := au9) (fn := Tryz.f191) (m := []) (ag ⟨akw, a0t, trivial⟩) Tryz.func191 trivial
def auW : Shape := ⟨[(0, DI), (1, DI), (2, .ptr 0 .opq 0 []), (3, .ptr 1 aH 0 [])], [.box 242 .opq (.fn 189 [] []), .box 95 aH (.agg [(.agg [DI, DI]), (.agg [DI, DI])])]⟩
def av5 : Shape := ⟨[], [.box 242 .opq (.fn 189 [] []), .box 95 aH (.agg [(.agg [DI, DI]), (.agg [DI, DI])])]⟩
def aic : Ent := ⟨190, auW, av5, acR⟩
def au7 : Fx := bj Acx (av [aaw, vh]) (fun k st => .fail) 2
theorem awm : AX aic := Afs (F := au7) (fn := Tryz.f190) (m := []) (ag ⟨aiI, abZ, trivial⟩) Tryz.func190 trivial
def axB : Shape := ⟨[(0, DS)], []⟩
def aya : Shape := ⟨[(0, DI)], []⟩
def akH : Ent := ⟨226, axB, aya, ahp⟩
def axs : Fx := AF0 [aax, vG]
theorem ayM : AX akH := Afs (F := axs) (fn := Tryz.f226) (m := []) (ag ⟨aiS, aaR, trivial⟩) Tryz.func226 trivial
def auY : Shape := ⟨[(0, DS), (1, DS)], []⟩
def av7 : Shape := ⟨[(0, DB)], []⟩
def aie : Ent := ⟨192, auY, av7, atn⟩
def au8 : Fx := AF0 [akH]
theorem awo : AX aie := Afs (F := au8) (fn := Tryz.f192) (m := []) (ag ⟨ayM, trivial⟩) Tryz.func192 trivial
def apB : Shape := ⟨[(0, .dat af)], []⟩
def apU : Shape := ⟨[(0, .dat aY)], []⟩
def ad9 : Ent := ⟨223, apB, apU, alE⟩
def apv : Fx := AF0 [vG]
theorem aqo : AX ad9 := Afs (F := apv) (fn := Tryz.f223) (m := []) (ag ⟨aaR, trivial⟩) Tryz.func223 trivial

end D
/- Entries, by program. -/
open Go Go.X Go.Proofs D
namespace D
def abz : Lp := ⟨⟨[(2, .ptr 0 aY 0 []), (3, .ptr 1 aY 0 []), (7, .dat (.list af)), (8, DI), (9, DI)], [.box 204 aY (.agg [DI, DI]), .box 204 aY (.agg [DI, DI])]⟩, (.exit 0), ⟨[(2, .ptr 0 aY 0 []), (3, .ptr 1 aY 0 [])], [.box 204 aY (.agg [DI, DI]), .box 204 aY (.agg [DI, DI])]⟩, (.exit 80000000), ⟨[], []⟩⟩
def arz : Shape := ⟨[(0, .dat (.list af))], []⟩
def arT : Shape := ⟨[(0, .dat aY)], []⟩
def aeU : Ent := ⟨188, arz, arT, aoG⟩
def ym : Fx := bj Acx (av [ad9]) (fun k st => bif Nat.beq k 0 then abz.go afN 0 st else .fail) 0
theorem afM : aC Tryz.prog (ym).Γ := ag ⟨aqo, trivial⟩
theorem aqp : aJ Tryz.prog ym Tryz.f188.ntmps 0 (al (ah Tryz.f188) 0) := Als (L := abz) (b := afL) (m := []) afM trivial
theorem asM : AX aeU := Afs (F := ym) (fn := Tryz.f188) (m := [(0, al (ah Tryz.f188) 0)]) afM Tryz.func188 ⟨aqp, trivial⟩
def ais : Lp := ⟨⟨[(1, .ptr 0 a8 0 []), (2, .ptr 1 aH 0 []), (3, .ptr 2 aH 0 []), (5, .ptr 3 .opq 0 []), (35, .dat (.list aH)), (36, DI), (37, DI)], [.box 85 a8 (.dat a8), .box 95 aH (.agg [(.agg [DI, DI]), (.agg [DI, DI])]), .box 95 aH (.agg [(.agg [DI, DI]), (.agg [DI, DI])]), .box 242 .opq (.fn 189 [] [])]⟩, (.exit 0), ⟨[(1, .ptr 0 a8 0 []), (2, .ptr 1 aH 0 []), (3, .ptr 2 aH 0 []), (5, .ptr 3 .opq 0 [])], [.box 85 a8 (.dat a8), .box 95 aH (.agg [(.agg [DI, DI]), (.agg [DI, DI])]), .box 95 aH (.agg [(.agg [DI, DI]), (.agg [DI, DI])]), .box 242 .opq (.fn 189 [] [])]⟩, (.exit 80000000), ⟨[], []⟩⟩
def ait : Lp := ⟨⟨[(2, .ptr 0 aH 0 []), (3, .ptr 1 aH 0 []), (5, .ptr 2 .opq 0 []), (8, .fn 190 [] [(.ptr 2 .opq 0 []), (.ptr 1 aH 0 [])]), (62, .dat (.list am)), (63, DI), (64, DI)], [.box 95 aH (.agg [(.agg [DI, DI]), (.agg [DI, DI])]), .box 95 aH (.agg [(.agg [DI, DI]), (.agg [DI, DI])]), .box 242 .opq (.fn 189 [] [])]⟩, (.exit 2), ⟨[(2, .ptr 0 aH 0 []), (3, .ptr 1 aH 0 [])], [.box 95 aH (.agg [(.agg [DI, DI]), (.agg [DI, DI])]), .box 95 aH (.agg [(.agg [DI, DI]), (.agg [DI, DI])])]⟩, (.exit 80000002), ⟨[], []⟩⟩
def azv : Shape := ⟨[(0, .dat a8)], []⟩
def az2 : Shape := ⟨[(0, .dat aH)], []⟩
def aoC : Ent := ⟨149, azv, az2, a0n⟩
def zI : Fx := bj Acx (av [aaw, vh, vG, aic, aie, aeU]) (fun k st => bif Nat.beq k 0 then ais.go aoN 0 st else bif Nat.beq k 2 then ait.go aoO 0 st else .fail) 0
theorem agn : aC Tryz.prog (zI).Γ := ag ⟨aiI, abZ, aaR, awm, awo, asM, trivial⟩
theorem ayK : aJ Tryz.prog zI Tryz.f149.ntmps 0 (al (ah Tryz.f149) 0) := Als (L := ais) (b := aoL) (m := []) agn trivial
theorem ayL : aJ Tryz.prog zI Tryz.f149.ntmps 2 (al (ah Tryz.f149) 1) := Als (L := ait) (b := aoM) (m := []) agn trivial
theorem a0o : AX aoC := Afs (F := zI) (fn := Tryz.f149) (m := [(0, al (ah Tryz.f149) 0), (2, al (ah Tryz.f149) 1)]) agn Tryz.func149 ⟨ayK, ayL, trivial⟩
def jJ : Lp := ⟨⟨[(3, DI), (4, .ptr 0 aq 0 []), (9, .ptr 1 a8 0 []), (11, DI), (39, .own ac 2), (40, DI), (41, DI)], [.box 32 aq (.dat aq), .box 85 a8 (.dat a8), .arr 39 ac false]⟩, .ret, ⟨[(8, DI)], []⟩, (.exit 0), ⟨[(11, DI)], []⟩⟩
def yj : Ent := ⟨91, lH, lJ, aps⟩
def oT (tree_height_r : (aj × Int × aa × Int × Unit) -> Option (Int × Unit)) : Fx := bj Acx (av [mw, kL, aav, (pY tree_height_r), aid, aoC]) (fun k st => bif Nat.beq k 0 then jJ.go (zv tree_height_r) 0 st else .fail) 0
theorem amE (tree_height_r : (aj × Int × aa × Int × Unit) -> Option (Int × Unit)) (s : jJ.S.ty.den) : @Eq (Option (jJ.S.ty.den ⊕ jJ.Out)) (jJ.body (oT tree_height_r) (al (ah Tryz.f91) 0) 0 s).val (zt tree_height_r s) := by kernel_rfl
theorem auw (tree_height_r : (aj × Int × aa × Int × Unit) -> Option (Int × Unit)) (s : lH.ty.den) : @Eq (Option lJ.ty.den) (aoc (oT tree_height_r) Tryz.f91 lH lJ s).val (vF tree_height_r s) := by kernel_rfl
theorem ahd (tree_height_r : (aj × Int × aa × Int × Unit) -> Option (Int × Unit)) (tree_height_r_ok : EntOK Tryz.prog (pY tree_height_r)) : aC Tryz.prog (oT tree_height_r).Γ := ag ⟨sV, q9, aiH, (tree_height_r_ok.x (by kernel_rfl)), awn, a0o, trivial⟩
theorem aqN (tree_height_r : (aj × Int × aa × Int × Unit) -> Option (Int × Unit)) (tree_height_r_ok : EntOK Tryz.prog (pY tree_height_r)) : aJ Tryz.prog (oT tree_height_r) Tryz.f91.ntmps 0 (al (ah Tryz.f91) 0) :=
  sT gZ (ahd tree_height_r tree_height_r_ok) bC (L := jJ) (f := zv tree_height_r) (b := zt tree_height_r) (m := []) (fun _ => rfl) (by kernel_rfl) (by kernel_rfl) trivial (by kernel_rfl) (bl _ (by kernel_rfl)) (amE tree_height_r)
theorem ahZ (tree_height_r : (aj × Int × aa × Int × Unit) -> Option (Int × Unit)) (tree_height_r_ok : EntOK Tryz.prog (pY tree_height_r)) : EntOK Tryz.prog ⟨91, lH, lJ, vF tree_height_r⟩ :=
  sR (F := (oT tree_height_r)) gZ (ahd tree_height_r tree_height_r_ok) bC (fn := Tryz.f91) (m := [(0, al (ah Tryz.f91) 0)]) Tryz.func91 (by kernel_rfl) (by kernel_rfl) (by kernel_rfl) ⟨aqN tree_height_r tree_height_r_ok, trivial⟩ (bl _ (by kernel_rfl)) (by kernel_rfl) (auw tree_height_r)
theorem xt : ∀ n, EntOK Tryz.prog ⟨91, lH, lJ, vE n⟩
  | 0 => alD
  | n + 1 => ahZ _ (xt n)
theorem aux : EntOK Tryz.prog yj := xt aqr
theorem auy : AX yj := (aux).x (by kernel_rfl)
def rt : Shape := ⟨[(0, .dat bo)], []⟩
def rz : Shape := ⟨[(0, DB)], []⟩
def au3 : Ent := ⟨31, rt, rz, akB⟩
def auQ : Fx := AF0 [aa5, yj]
theorem awJ : EntOK Tryz.prog au3 := Afk (F := auQ) (fn := Tryz.f31) (m := []) (ag ⟨ajx, auy, trivial⟩) Tryz.func31 trivial
def ab9 : Lp := ⟨⟨[(1, .ptr 0 bo 0 []), (3, .ptr 1 a8 0 []), (5, DI)], [.box 36 bo (.dat bo), .box 85 a8 (.dat a8)]⟩, (.exit 0), ⟨[(5, DI)], []⟩, (.exit 80000000), ⟨[], []⟩⟩
def pd : Shape := ⟨[(0, .dat bo)], []⟩
def pl : Shape := ⟨[(0, DI)], []⟩
def yi : Ent := ⟨17, pd, pl, tj⟩
def yz : Fx := bj Acx (av [mw, kL]) (fun k st => bif Nat.beq k 0 then ab9.go zr 0 st else .fail) 0
theorem ahb : aC Tryz.prog (yz).Γ := ag ⟨sV, q9, trivial⟩
theorem aqM : aJ Tryz.prog yz Tryz.f17.ntmps 0 (al (ah Tryz.f17) 0) := Als (L := ab9) (b := pL) (m := []) ahb trivial
theorem ahc : EntOK Tryz.prog yi := Afk (F := yz) (fn := Tryz.f17) (m := [(0, al (ah Tryz.f17) 0)]) ahb Tryz.func17 ⟨aqM, trivial⟩
theorem auu : AX yi := ahc.x (by kernel_rfl)
def cT : Lp := ⟨⟨[(1, .ptr 0 bo 0 []), (2, .ptr 1 af 0 []), (3, DB), (4, DI), (7, DB), (8, DI), (10, .own af 2), (16, .ptr 3 bo 0 []), (18, DB)], [.box 36 bo (.dat bo), .box 58 af (.dat af), .arr 58 af false, .box 36 bo (.dat bo)]⟩, .ret, ⟨[(0, DB)], []⟩, (.exit 90000009), ⟨[], []⟩⟩
def rW : Shape := ⟨[], []⟩
def rX : Shape := ⟨[(0, DB)], []⟩
def wM : Ent := ⟨21, rW, rX, acP⟩
def kG (x_law12_small : Unit -> Option (az × Unit)) (x_tree_Get : (az × (List UInt8) × Unit) -> Option lN) (x_tree_Scan : (az × aa × Unit) -> Option (Int × (List ae) × Unit)) (x_tree_New : (aZ × Unit) -> Option (az × Int × Unit)) (x_tree_Add : (az × ai × Unit) -> Option (az × Int × Unit)) (x_ref04_Same : ((List ae) × (List ae) × Unit) -> Option (Bool × Unit)) (x_tree_Valid : (az × Unit) -> Option (Bool × Unit)) (x_tree_Height : (az × Unit) -> Option (Int × Unit)) : Fx := AF0 [⟨80, oV, pf, x_law12_small⟩, ⟨81, pc, pk, x_tree_Get⟩, ⟨27, mJ, mL, x_tree_Scan⟩, ⟨40, wj, wm, x_tree_New⟩, ⟨15, wi, wl, x_tree_Add⟩, ⟨29, rm, ru, x_ref04_Same⟩, ⟨31, rt, rz, x_tree_Valid⟩, ⟨17, pd, pl, x_tree_Height⟩]
def rR (x_law12_small : Unit -> Option (az × Unit)) (x_tree_Get : (az × (List UInt8) × Unit) -> Option lN) (x_tree_Scan : (az × aa × Unit) -> Option (Int × (List ae) × Unit)) (x_tree_New : (aZ × Unit) -> Option (az × Int × Unit)) (x_tree_Add : (az × ai × Unit) -> Option (az × Int × Unit)) (x_ref04_Same : ((List ae) × (List ae) × Unit) -> Option (Bool × Unit)) (x_tree_Valid : (az × Unit) -> Option (Bool × Unit)) (x_tree_Height : (az × Unit) -> Option (Int × Unit)) : ahG := [(9, cT.go (ci x_law12_small x_tree_Get x_tree_Scan x_tree_New x_tree_Add x_ref04_Same x_tree_Valid x_tree_Height) 0)]
theorem akl (x_law12_small : Unit -> Option (az × Unit)) (x_tree_Get : (az × (List UInt8) × Unit) -> Option lN) (x_tree_Scan : (az × aa × Unit) -> Option (Int × (List ae) × Unit)) (x_tree_New : (aZ × Unit) -> Option (az × Int × Unit)) (x_tree_Add : (az × ai × Unit) -> Option (az × Int × Unit)) (x_ref04_Same : ((List ae) × (List ae) × Unit) -> Option (Bool × Unit)) (x_tree_Valid : (az × Unit) -> Option (Bool × Unit)) (x_tree_Height : (az × Unit) -> Option (Int × Unit)) (s : cT.S.ty.den) : @Eq (Option cT.Out) ((evK (kG x_law12_small x_tree_Get x_tree_Scan x_tree_New x_tree_Add x_ref04_Same x_tree_Valid x_tree_Height) (rR x_law12_small x_tree_Get x_tree_Scan x_tree_New x_tree_Add x_ref04_Same x_tree_Valid x_tree_Height) (bI (ah Tryz.f21) 9) 0 (cT.S.enc s)).bind fun (e, st) => cT.out (kG x_law12_small x_tree_Get x_tree_Scan x_tree_New x_tree_Add x_ref04_Same x_tree_Valid x_tree_Height).m e st).val (ci x_law12_small x_tree_Get x_tree_Scan x_tree_New x_tree_Add x_ref04_Same x_tree_Valid x_tree_Height s) := by kernel_rfl
theorem aqs (x_law12_small : Unit -> Option (az × Unit)) (x_tree_Get : (az × (List UInt8) × Unit) -> Option lN) (x_tree_Scan : (az × aa × Unit) -> Option (Int × (List ae) × Unit)) (x_tree_New : (aZ × Unit) -> Option (az × Int × Unit)) (x_tree_Add : (az × ai × Unit) -> Option (az × Int × Unit)) (x_ref04_Same : ((List ae) × (List ae) × Unit) -> Option (Bool × Unit)) (x_tree_Valid : (az × Unit) -> Option (Bool × Unit)) (x_tree_Height : (az × Unit) -> Option (Int × Unit)) (s : rW.ty.den) : @Eq (Option rX.ty.den) (aoI (kG x_law12_small x_tree_Get x_tree_Scan x_tree_New x_tree_Add x_ref04_Same x_tree_Valid x_tree_Height) (rR x_law12_small x_tree_Get x_tree_Scan x_tree_New x_tree_Add x_ref04_Same x_tree_Valid x_tree_Height) Tryz.f21 rW rX s).val (un x_law12_small x_tree_Get x_tree_Scan x_tree_New x_tree_Add x_ref04_Same x_tree_Valid x_tree_Height s) := by kernel_rfl
theorem aea (x_law12_small : Unit -> Option (az × Unit)) (x_law12_small_ok : EntOK Tryz.prog ⟨80, oV, pf, x_law12_small⟩) (x_tree_Get : (az × (List UInt8) × Unit) -> Option lN) (x_tree_Get_ok : EntOK Tryz.prog ⟨81, pc, pk, x_tree_Get⟩) (x_tree_Scan : (az × aa × Unit) -> Option (Int × (List ae) × Unit)) (x_tree_Scan_ok : EntOK Tryz.prog ⟨27, mJ, mL, x_tree_Scan⟩) (x_tree_New : (aZ × Unit) -> Option (az × Int × Unit)) (x_tree_New_ok : EntOK Tryz.prog ⟨40, wj, wm, x_tree_New⟩) (x_tree_Add : (az × ai × Unit) -> Option (az × Int × Unit)) (x_tree_Add_ok : EntOK Tryz.prog ⟨15, wi, wl, x_tree_Add⟩) (x_ref04_Same : ((List ae) × (List ae) × Unit) -> Option (Bool × Unit)) (x_ref04_Same_ok : EntOK Tryz.prog ⟨29, rm, ru, x_ref04_Same⟩) (x_tree_Valid : (az × Unit) -> Option (Bool × Unit)) (x_tree_Valid_ok : EntOK Tryz.prog ⟨31, rt, rz, x_tree_Valid⟩) (x_tree_Height : (az × Unit) -> Option (Int × Unit)) (x_tree_Height_ok : EntOK Tryz.prog ⟨17, pd, pl, x_tree_Height⟩) : aC Tryz.prog (kG x_law12_small x_tree_Get x_tree_Scan x_tree_New x_tree_Add x_ref04_Same x_tree_Valid x_tree_Height).Γ := ag ⟨(x_law12_small_ok.x (by kernel_rfl)), (x_tree_Get_ok.x (by kernel_rfl)), (x_tree_Scan_ok.x (by kernel_rfl)), (x_tree_New_ok.x (by kernel_rfl)), (x_tree_Add_ok.x (by kernel_rfl)), (x_ref04_Same_ok.x (by kernel_rfl)), (x_tree_Valid_ok.x (by kernel_rfl)), (x_tree_Height_ok.x (by kernel_rfl)), trivial⟩
theorem akm (x_law12_small : Unit -> Option (az × Unit)) (x_law12_small_ok : EntOK Tryz.prog ⟨80, oV, pf, x_law12_small⟩) (x_tree_Get : (az × (List UInt8) × Unit) -> Option lN) (x_tree_Get_ok : EntOK Tryz.prog ⟨81, pc, pk, x_tree_Get⟩) (x_tree_Scan : (az × aa × Unit) -> Option (Int × (List ae) × Unit)) (x_tree_Scan_ok : EntOK Tryz.prog ⟨27, mJ, mL, x_tree_Scan⟩) (x_tree_New : (aZ × Unit) -> Option (az × Int × Unit)) (x_tree_New_ok : EntOK Tryz.prog ⟨40, wj, wm, x_tree_New⟩) (x_tree_Add : (az × ai × Unit) -> Option (az × Int × Unit)) (x_tree_Add_ok : EntOK Tryz.prog ⟨15, wi, wl, x_tree_Add⟩) (x_ref04_Same : ((List ae) × (List ae) × Unit) -> Option (Bool × Unit)) (x_ref04_Same_ok : EntOK Tryz.prog ⟨29, rm, ru, x_ref04_Same⟩) (x_tree_Valid : (az × Unit) -> Option (Bool × Unit)) (x_tree_Valid_ok : EntOK Tryz.prog ⟨31, rt, rz, x_tree_Valid⟩) (x_tree_Height : (az × Unit) -> Option (Int × Unit)) (x_tree_Height_ok : EntOK Tryz.prog ⟨17, pd, pl, x_tree_Height⟩) : qD Tryz.prog (kG x_law12_small x_tree_Get x_tree_Scan x_tree_New x_tree_Add x_ref04_Same x_tree_Valid x_tree_Height) Tryz.f21.ntmps (cT.go (ci x_law12_small x_tree_Get x_tree_Scan x_tree_New x_tree_Add x_ref04_Same x_tree_Valid x_tree_Height) 0) (bI (ah Tryz.f21) 9) :=
  fj gZ (aea x_law12_small x_law12_small_ok x_tree_Get x_tree_Get_ok x_tree_Scan x_tree_Scan_ok x_tree_New x_tree_New_ok x_tree_Add x_tree_Add_ok x_ref04_Same x_ref04_Same_ok x_tree_Valid x_tree_Valid_ok x_tree_Height x_tree_Height_ok) bC (L := cT) (k := 0) (f := ci x_law12_small x_tree_Get x_tree_Scan x_tree_New x_tree_Add x_ref04_Same x_tree_Valid x_tree_Height) (C := (rR x_law12_small x_tree_Get x_tree_Scan x_tree_New x_tree_Add x_ref04_Same x_tree_Valid x_tree_Height)) (l := []) (m := []) (by kernel_rfl) trivial (by kernel_rfl) trivial (by kernel_rfl) (bl _ (by kernel_rfl)) (akl x_law12_small x_tree_Get x_tree_Scan x_tree_New x_tree_Add x_ref04_Same x_tree_Valid x_tree_Height)
theorem afV (x_law12_small : Unit -> Option (az × Unit)) (x_law12_small_ok : EntOK Tryz.prog ⟨80, oV, pf, x_law12_small⟩) (x_tree_Get : (az × (List UInt8) × Unit) -> Option lN) (x_tree_Get_ok : EntOK Tryz.prog ⟨81, pc, pk, x_tree_Get⟩) (x_tree_Scan : (az × aa × Unit) -> Option (Int × (List ae) × Unit)) (x_tree_Scan_ok : EntOK Tryz.prog ⟨27, mJ, mL, x_tree_Scan⟩) (x_tree_New : (aZ × Unit) -> Option (az × Int × Unit)) (x_tree_New_ok : EntOK Tryz.prog ⟨40, wj, wm, x_tree_New⟩) (x_tree_Add : (az × ai × Unit) -> Option (az × Int × Unit)) (x_tree_Add_ok : EntOK Tryz.prog ⟨15, wi, wl, x_tree_Add⟩) (x_ref04_Same : ((List ae) × (List ae) × Unit) -> Option (Bool × Unit)) (x_ref04_Same_ok : EntOK Tryz.prog ⟨29, rm, ru, x_ref04_Same⟩) (x_tree_Valid : (az × Unit) -> Option (Bool × Unit)) (x_tree_Valid_ok : EntOK Tryz.prog ⟨31, rt, rz, x_tree_Valid⟩) (x_tree_Height : (az × Unit) -> Option (Int × Unit)) (x_tree_Height_ok : EntOK Tryz.prog ⟨17, pd, pl, x_tree_Height⟩) : EntOK Tryz.prog ⟨21, rW, rX, un x_law12_small x_tree_Get x_tree_Scan x_tree_New x_tree_Add x_ref04_Same x_tree_Valid x_tree_Height⟩ :=
  yG (C := (rR x_law12_small x_tree_Get x_tree_Scan x_tree_New x_tree_Add x_ref04_Same x_tree_Valid x_tree_Height)) (F := (kG x_law12_small x_tree_Get x_tree_Scan x_tree_New x_tree_Add x_ref04_Same x_tree_Valid x_tree_Height)) gZ (aea x_law12_small x_law12_small_ok x_tree_Get x_tree_Get_ok x_tree_Scan x_tree_Scan_ok x_tree_New x_tree_New_ok x_tree_Add x_tree_Add_ok x_ref04_Same x_ref04_Same_ok x_tree_Valid x_tree_Valid_ok x_tree_Height x_tree_Height_ok) bC (fn := Tryz.f21) (l := []) (m := [(cT.go (ci x_law12_small x_tree_Get x_tree_Scan x_tree_New x_tree_Add x_ref04_Same x_tree_Valid x_tree_Height) 0, bI (ah Tryz.f21) 9)]) Tryz.func21 (by kernel_rfl) (by kernel_rfl) (by kernel_rfl) trivial (by kernel_rfl) ⟨akm x_law12_small x_law12_small_ok x_tree_Get x_tree_Get_ok x_tree_Scan x_tree_Scan_ok x_tree_New x_tree_New_ok x_tree_Add x_tree_Add_ok x_ref04_Same x_ref04_Same_ok x_tree_Valid x_tree_Valid_ok x_tree_Height x_tree_Height_ok, trivial⟩ (bl _ (by kernel_rfl)) (by kernel_rfl) (aqs x_law12_small x_tree_Get x_tree_Scan x_tree_New x_tree_Add x_ref04_Same x_tree_Valid x_tree_Height)
theorem aqt : EntOK Tryz.prog wM := afV afW ata zq apr ahy azj auv a09 aus a06 ak3 awx akB awJ tj ahc
theorem aqu : AX wM := (aqt).x (by kernel_rfl)
def axH : Shape := ⟨[(0, .dat (.int .u8))], []⟩
def ayg : Shape := ⟨[(0, DS)], []⟩
def acz : Ent := ⟨83, axH, ayg, qm⟩
def axx : Fx := AF0 []
theorem amn : AX acz := Afs (F := axx) (fn := Tryz.f83) (m := []) (ag trivial) Tryz.func83 trivial
def avj : Shape := ⟨[(0, .dat (.pair (.int .u8) (.pair (.int .u8) (.pair (.int .u8) .unit))))], []⟩
def avI : Shape := ⟨[(0, .dat af)], []⟩
def aik : Ent := ⟨109, avj, avI, adb⟩
def auF : Fx := AF0 [acz]
theorem awv : AX aik := Afs (F := auF) (fn := Tryz.f109) (m := []) (ag ⟨amn, trivial⟩) Tryz.func109 trivial
def afx : Lp := ⟨⟨[(0, .dat (.list af)), (3, .ptr 0 af 0 []), (5, .own af 1), (6, DB), (7, DI)], [.box 58 af (.dat af), .arr 58 af false]⟩, (.exit 0), ⟨[(3, .ptr 0 af 0 []), (5, .own af 1), (6, DB)], [.box 58 af (.dat af), .arr 58 af false]⟩, (.exit 80000000), ⟨[], []⟩⟩
def axI : Shape := ⟨[(0, .dat (.list af)), (1, .dat af)], []⟩
def ayh : Shape := ⟨[(0, .own af 0)], [.arr 58 af false]⟩
def akK : Ent := ⟨108, axI, ayh, aht⟩
def ac5 : Fx := bj Acx (av []) (fun k st => bif Nat.beq k 0 then afx.go adc 0 st else .fail) 0
theorem amo : aC Tryz.prog (ac5).Γ := ag trivial
theorem aww : aJ Tryz.prog ac5 Tryz.f108.ntmps 0 (al (ah Tryz.f108) 0) := Als (L := afx) (b := uw) (m := []) amo trivial
theorem ayU : AX akK := Afs (F := ac5) (fn := Tryz.f108) (m := [(0, al (ah Tryz.f108) 0)]) amo Tryz.func108 ⟨aww, trivial⟩
def adR : Lp := ⟨⟨[(0, .dat (.list (.pair (.int .u8) (.pair (.int .u8) (.pair (.int .u8) .unit))))), (3, .own af 0), (4, DI)], [.arr 58 af false]⟩, (.exit 0), ⟨[(3, .own af 0)], [.arr 58 af false]⟩, (.exit 80000000), ⟨[], []⟩⟩
def avi : Shape := ⟨[(0, .dat (.list (.pair (.int .u8) (.pair (.int .u8) (.pair (.int .u8) .unit)))))], []⟩
def avH : Shape := ⟨[(0, .own af 0)], [.arr 58 af false]⟩
def aij : Ent := ⟨51, avi, avH, zi⟩
def aaA : Fx := bj Acx (av [aik, akK]) (fun k st => bif Nat.beq k 0 then adR.go vO 0 st else .fail) 0
theorem aje : aC Tryz.prog (aaA).Γ := ag ⟨awv, ayU, trivial⟩
theorem at9 : aJ Tryz.prog aaA Tryz.f51.ntmps 0 (al (ah Tryz.f51) 0) := Als (L := adR) (b := nl) (m := []) aje trivial
theorem awu : AX aij := Afs (F := aaA) (fn := Tryz.f51) (m := [(0, al (ah Tryz.f51) 0)]) aje Tryz.func51 ⟨at9, trivial⟩
def lG : Shape := ⟨[(0, .dat aq), (1, .dat (.list af)), (2, .dat ac), (3, .dat (.list (.list .str))), (4, .dat dt)], []⟩
def lI : Shape := ⟨[(0, .dat aB)], []⟩
def jF (ref12_build_r : (aj × (List ae) × aa × (List (List (List UInt8))) × aF × Unit) -> Option (aO × Unit)) : Ent := ⟨50, lG, lI, ref12_build_r⟩
def axG : Shape := ⟨[(0, .dat ac), (1, DS)], []⟩
def ayf : Shape := ⟨[(0, DB)], []⟩
def acy : Ent := ⟨96, axG, ayf, acf⟩
def axw : Fx := AF0 []
theorem amm : AX acy := Afs (F := axw) (fn := Tryz.f96) (m := []) (ag trivial) Tryz.func96 trivial
def ab5 : Lp := ⟨⟨[(0, .dat (.list af)), (3, .ptr 0 ac 0 []), (5, .own af 1), (6, DI)], [.box 39 ac (.dat ac), .arr 58 af false]⟩, (.exit 0), ⟨[(5, .own af 0)], [.arr 58 af false]⟩, (.exit 80000000), ⟨[], []⟩⟩
def arA : Shape := ⟨[(0, .dat (.list af)), (1, .dat ac)], []⟩
def ase : Shape := ⟨[(0, .own af 0)], [.arr 58 af false]⟩
def afc : Ent := ⟨37, arA, ase, aae⟩
def yu : Fx := bj Acx (av [acy]) (fun k st => bif Nat.beq k 0 then ab5.go zj 0 st else .fail) 0
theorem ag9 : aC Tryz.prog (yu).Γ := ag ⟨amm, trivial⟩
theorem aq5 : aJ Tryz.prog yu Tryz.f37.ntmps 0 (al (ah Tryz.f37) 0) := Als (L := ab5) (b := pw) (m := []) ag9 trivial
theorem atA : AX afc := Afs (F := yu) (fn := Tryz.f37) (m := [(0, al (ah Tryz.f37) 0)]) ag9 Tryz.func37 ⟨aq5, trivial⟩
def avf : Shape := ⟨[(0, DS), (1, DS)], []⟩
def avE : Shape := ⟨[(0, DB)], []⟩
def aa0 : Ent := ⟨162, avf, avE, ze⟩
def auC : Fx := AF0 []
theorem ajd : AX aa0 := Afs (F := auC) (fn := Tryz.f162) (m := []) (ag trivial) Tryz.func162 trivial
def ar7 : Shape := ⟨[(0, .dat ac)], []⟩
def asb : Shape := ⟨[(0, DB)], []⟩
def yc : Ent := ⟨120, ar7, asb, sX⟩
def ari : Fx := AF0 []
theorem ag6 : AX yc := Afs (F := ari) (fn := Tryz.f120) (m := []) (ag trivial) Tryz.func120 trivial
def avh : Shape := ⟨[], []⟩
def avG : Shape := ⟨[(0, .dat ac)], []⟩
def aii : Ent := ⟨163, avh, avG, ak2⟩
def auE : Fx := AF0 []
theorem awt : AX aii := Afs (F := auE) (fn := Tryz.f163) (m := []) (ag trivial) Tryz.func163 trivial
def avg : Shape := ⟨[(0, .dat ac), (1, .dat ac)], []⟩
def avF : Shape := ⟨[(0, .dat ac)], []⟩
def aih : Ent := ⟨121, avg, avF, zf⟩
def auD : Fx := AF0 [aa0, yc, aii]
theorem aws : AX aih := Afs (F := auD) (fn := Tryz.f121) (m := []) (ag ⟨ajd, ag6, awt, trivial⟩) Tryz.func121 trivial
def ab3 : Lp := ⟨⟨[(1, .dat (.list .str)), (2, .ptr 0 ac 0 []), (5, .own ac 1), (6, DS), (7, DI)], [.box 39 ac (.dat ac), .arr 39 ac false]⟩, (.exit 0), ⟨[(2, .ptr 0 ac 0 []), (5, .own ac 1), (6, DS)], [.box 39 ac (.dat ac), .arr 39 ac false]⟩, (.exit 80000000), ⟨[], []⟩⟩
def ar8 : Shape := ⟨[(0, .dat ac), (1, .dat (.list .str))], []⟩
def asc : Shape := ⟨[(0, .own ac 0)], [.arr 39 ac false]⟩
def afa : Ent := ⟨119, ar8, asc, aac⟩
def yr : Fx := bj Acx (av [aih]) (fun k st => bif Nat.beq k 0 then ab3.go zg 0 st else .fail) 0
theorem ag7 : aC Tryz.prog (yr).Γ := ag ⟨aws, trivial⟩
theorem aq2 : aJ Tryz.prog yr Tryz.f119.ntmps 0 (al (ah Tryz.f119) 0) := Als (L := ab3) (b := pt) (m := []) ag7 trivial
theorem at7 : AX afa := Afs (F := yr) (fn := Tryz.f119) (m := [(0, al (ah Tryz.f119) 0)]) ag7 Tryz.func119 ⟨aq2, trivial⟩
def arF : Shape := ⟨[(0, .dat a8), (1, .dat ac)], []⟩
def asj : Shape := ⟨[(0, .own ac 0)], [.arr 39 ac false]⟩
def afh : Ent := ⟨77, arF, asj, aag⟩
def arn : Fx := AF0 [afa]
theorem atI : AX afh := Afs (F := arn) (fn := Tryz.f77) (m := []) (ag ⟨at7, trivial⟩) Tryz.func77 trivial
def axM : Shape := ⟨[(0, .dat aq), (1, DI)], []⟩
def ayl : Shape := ⟨[(0, .dat a8), (1, DI)], []⟩
def ac1 : Ent := ⟨76, axM, ayl, v6⟩
def axz : Fx := AF0 [vH]
theorem amu : AX ac1 := Afs (F := axz) (fn := Tryz.f76) (m := []) (ag ⟨aaV, trivial⟩) Tryz.func76 trivial
def avo : Shape := ⟨[(0, .dat aH), (1, .dat aH)], []⟩
def avN : Shape := ⟨[(0, .dat aH)], []⟩
def ain : Ent := ⟨157, avo, avN, ak4⟩
def auH : Fx := AF0 []
theorem aw3 : AX ain := Afs (F := auH) (fn := Tryz.f157) (m := []) (ag trivial) Tryz.func157 trivial
def ar5 : Shape := ⟨[(0, DS), (1, DI)], []⟩
def arZ : Shape := ⟨[(0, .dat aE)], []⟩
def aeZ : Ent := ⟨245, ar5, arZ, ape⟩
def arh : Fx := AF0 []
theorem at3 : AX aeZ := Afs (F := arh) (fn := Tryz.f245) (m := []) (ag trivial) Tryz.func245 trivial
def ab0 : Lp := ⟨⟨[(0, DS), (4, .own .str 0), (5, DS), (6, DI)], [.arr 9 .str false]⟩, (.exit 0), ⟨[(4, .own .str 0), (5, DS)], [.arr 9 .str false]⟩, (.exit 80000000), ⟨[], []⟩⟩
def ar2 : Shape := ⟨[(0, DS)], []⟩
def arW : Shape := ⟨[(0, .own .str 0), (1, DB)], [.arr 9 .str false]⟩
def aeY : Ent := ⟨247, ar2, arW, apd⟩
def yn : Fx := bj Acx (av []) (fun k st => bif Nat.beq k 0 then ab0.go agu 0 st else .fail) 0
theorem agt : aC Tryz.prog (yn).Γ := ag trivial
theorem aqx : aJ Tryz.prog yn Tryz.f247.ntmps 0 (al (ah Tryz.f247) 0) := Als (L := ab0) (b := ags) (m := []) agt trivial
theorem at2 : AX aeY := Afs (F := yn) (fn := Tryz.f247) (m := [(0, al (ah Tryz.f247) 0)]) agt Tryz.func247 ⟨aqx, trivial⟩
def adQ : Lp := ⟨⟨[(0, DS), (3, DI)], []⟩, .ret, ⟨[(2, DB)], []⟩, (.exit 0), ⟨[], []⟩⟩
def ave : Shape := ⟨[(0, DS)], []⟩
def avD : Shape := ⟨[(0, DB)], []⟩
def aaz : Ent := ⟨248, ave, avD, akz⟩
def aa9 : Fx := bj Acx (av []) (fun k st => bif Nat.beq k 0 then adQ.go ajb 0 st else .fail) 0
theorem aja : aC Tryz.prog (aa9).Γ := ag trivial
theorem at1 : aJ Tryz.prog aa9 Tryz.f248.ntmps 0 (al (ah Tryz.f248) 0) := Als (L := adQ) (b := aiZ) (m := []) aja trivial
theorem ajc : AX aaz := Afs (F := aa9) (fn := Tryz.f248) (m := [(0, al (ah Tryz.f248) 0)]) aja Tryz.func248 ⟨at1, trivial⟩
def ab2 : Lp := ⟨⟨[(3, .own .str 0), (4, DB), (5, DI)], [.arr 9 .str false]⟩, .ret, ⟨[(2, DB)], []⟩, (.exit 0), ⟨[(4, DB)], []⟩⟩
def ar4 : Shape := ⟨[(0, DS)], []⟩
def arY : Shape := ⟨[(0, DB)], []⟩
def yb : Ent := ⟨228, ar4, arY, wu⟩
def yq : Fx := bj Acx (av [aeY, aaz]) (fun k st => bif Nat.beq k 0 then ab2.go ag1 0 st else .fail) 0
theorem ag0 : aC Tryz.prog (yq).Γ := ag ⟨at2, ajc, trivial⟩
theorem aqz : aJ Tryz.prog yq Tryz.f228.ntmps 0 (al (ah Tryz.f228) 0) := Als (L := ab2) (b := agz) (m := []) ag0 trivial
theorem ag2 : AX yb := Afs (F := yq) (fn := Tryz.f228) (m := [(0, al (ah Tryz.f228) 0)]) ag0 Tryz.func228 ⟨aqz, trivial⟩
def adP : Lp := ⟨⟨[(0, DI), (3, DS), (4, DI)], []⟩, (.exit 0), ⟨[(3, DS)], []⟩, (.exit 80000000), ⟨[], []⟩⟩
def avd : Shape := ⟨[(0, DI)], []⟩
def avC : Shape := ⟨[(0, DS)], []⟩
def aig : Ent := ⟨249, avd, avC, atz⟩
def aa8 : Fx := bj Acx (av []) (fun k st => bif Nat.beq k 0 then adP.go aiY 0 st else .fail) 0
theorem aiW : aC Tryz.prog (aa8).Γ := ag trivial
theorem at0 : aJ Tryz.prog aa8 Tryz.f249.ntmps 0 (al (ah Tryz.f249) 0) := Als (L := adP) (b := aiV) (m := []) aiW trivial
theorem awr : AX aig := Afs (F := aa8) (fn := Tryz.f249) (m := [(0, al (ah Tryz.f249) 0)]) aiW Tryz.func249 ⟨at0, trivial⟩
def zK : Lp := ⟨⟨[(0, DS), (3, DI), (4, DI)], []⟩, (.exit 0), ⟨[(0, DS), (3, DI)], []⟩, (.exit 80000000), ⟨[], []⟩⟩
def apH : Shape := ⟨[(0, DS)], []⟩
def aqa : Shape := ⟨[(0, DB)], []⟩
def wO : Ent := ⟨229, apH, aqa, xE⟩
def wR : Fx := bj Acx (av [aig]) (fun k st => bif Nat.beq k 0 then zK.go aep 0 st else .fail) 0
theorem aeo : aC Tryz.prog (wR).Γ := ag ⟨awr, trivial⟩
theorem aoq : aJ Tryz.prog wR Tryz.f229.ntmps 0 (al (ah Tryz.f229) 0) := Als (L := zK) (b := aen) (m := []) aeo trivial
theorem aeq : AX wO := Afs (F := wR) (fn := Tryz.f229) (m := [(0, al (ah Tryz.f229) 0)]) aeo Tryz.func229 ⟨aoq, trivial⟩
def bP : Lp := ⟨⟨[(1, .ptr 0 aE 0 []), (32, DB)], [.box 245 aE (.dat aE)]⟩, .nrm, ⟨[(1, .ptr 0 aE 0 [])], [.box 245 aE (.dat aE)]⟩, .ret, ⟨[(2, DB)], []⟩⟩
def cU : Lp := ⟨⟨[(1, .ptr 0 aE 0 [])], [.box 245 aE (.dat aE)]⟩, .ret, ⟨[(2, DB)], []⟩, (.exit 90000010), ⟨[], []⟩⟩
def dw : Lp := ⟨⟨[(1, .ptr 0 aE 0 [])], [.box 245 aE (.dat aE)]⟩, .ret, ⟨[(2, DB)], []⟩, (.exit 90000003), ⟨[], []⟩⟩
def ar6 : Shape := ⟨[(0, .dat aE)], []⟩
def asa : Shape := ⟨[(0, DB)], []⟩
def jS : Ent := ⟨259, ar6, asa, apf⟩
def cg : Fx := AF0 [aaz, yb, wO]
def hJ : ahG := [(100002, bP.go aV 0), (10, cU.go kH 0), (3, dw.go bD 0)]
theorem acZ (s : bP.S.ty.den) : @Eq (Option bP.Out) ((evK cg hJ (bI (ah Tryz.f259) 100002) 0 (bP.S.enc s)).bind fun (e, st) => bP.out (cg).m e st).val (aV s) := by kernel_rfl
theorem ak0 (s : cU.S.ty.den) : @Eq (Option cU.Out) ((evK cg hJ (bI (ah Tryz.f259) 10) 0 (cU.S.enc s)).bind fun (e, st) => cU.out (cg).m e st).val (kH s) := by kernel_rfl
theorem amj (s : dw.S.ty.den) : @Eq (Option dw.Out) ((evK cg hJ (bI (ah Tryz.f259) 3) 0 (dw.S.enc s)).bind fun (e, st) => dw.out (cg).m e st).val (bD s) := by kernel_rfl
theorem at4 (s : (jS).S.ty.den) : (aoI cg hJ Tryz.f259 (jS).S (jS).Z s).val = (jS).g s := by kernel_rfl
theorem uu : aC Tryz.prog (cg).Γ := ag ⟨ajc, ag2, aeq, trivial⟩
theorem ada : qD Tryz.prog cg Tryz.f259.ntmps (bP.go aV 0) (bI (ah Tryz.f259) 100002) :=
  fj gZ uu bC (L := bP) (k := 0) (f := aV) (C := hJ) (l := []) (m := []) (by kernel_rfl) trivial (by kernel_rfl) trivial (by kernel_rfl) (bl _ (by kernel_rfl)) acZ
theorem ak1 : qD Tryz.prog cg Tryz.f259.ntmps (cU.go kH 0) (bI (ah Tryz.f259) 10) :=
  fj gZ uu bC (L := cU) (k := 0) (f := kH) (C := hJ) (l := []) (m := []) (by kernel_rfl) trivial (by kernel_rfl) trivial (by kernel_rfl) (bl _ (by kernel_rfl)) ak0
theorem amk : qD Tryz.prog cg Tryz.f259.ntmps (dw.go bD 0) (bI (ah Tryz.f259) 3) :=
  fj gZ uu bC (L := dw) (k := 0) (f := bD) (C := hJ) (l := []) (m := [(cU.go kH 0, bI (ah Tryz.f259) 10)]) (by kernel_rfl) trivial (by kernel_rfl) ⟨ak1, trivial⟩ (by kernel_rfl) (bl _ (by kernel_rfl)) amj
theorem at5 : EntOK Tryz.prog jS :=
  yG (C := hJ) (F := cg) gZ uu bC (fn := Tryz.f259) (l := []) (m := [(bP.go aV 0, bI (ah Tryz.f259) 100002), (dw.go bD 0, bI (ah Tryz.f259) 3)]) Tryz.func259 (by kernel_rfl) (by kernel_rfl) (by kernel_rfl) trivial (by kernel_rfl) ⟨ada, amk, trivial⟩ (bl _ (by kernel_rfl)) (by kernel_rfl) at4
theorem at6 : AX jS := (at5).x (by kernel_rfl)
def axE : Shape := ⟨[(0, .dat aE)], []⟩
def ayd : Shape := ⟨[(0, DS), (1, DI)], []⟩
def akJ : Ent := ⟨246, axE, ayd, axd⟩
def axu : Fx := AF0 [jS]
theorem ayT : AX akJ := Afs (F := axu) (fn := Tryz.f246) (m := []) (ag ⟨at6, trivial⟩) Tryz.func246 trivial
def ab1 : Lp := ⟨⟨[(0, DS), (2, .ptr 0 aE 0 []), (4, DI)], [.box 245 aE (.agg [DS, DI, DI, DS])]⟩, .ret, ⟨[(2, .ptr 0 aE 0 []), (3, DI)], [.box 245 aE (.dat aE)]⟩, (.exit 0), ⟨[(2, .ptr 0 aE 0 [])], [.box 245 aE (.agg [DS, DI, DI, DS])]⟩⟩
def ar3 : Shape := ⟨[(0, DS)], []⟩
def arX : Shape := ⟨[(0, .dat aE), (1, DI)], []⟩
def ya : Ent := ⟨227, ar3, arX, sW⟩
def yp : Fx := bj Acx (av [aeZ, akJ]) (fun k st => bif Nat.beq k 0 then ab1.go agx 0 st else .fail) 0
theorem agw : aC Tryz.prog (yp).Γ := ag ⟨at3, ayT, trivial⟩
theorem aqy : aJ Tryz.prog yp Tryz.f227.ntmps 0 (al (ah Tryz.f227) 0) := Als (L := ab1) (b := agv) (m := []) agw trivial
theorem agy : AX ya := Afs (F := yp) (fn := Tryz.f227) (m := [(0, al (ah Tryz.f227) 0)]) agw Tryz.func227 ⟨aqy, trivial⟩
def anr : Shape := ⟨[(0, DS)], []⟩
def anG : Shape := ⟨[(0, DB)], []⟩
def abm : Ent := ⟨199, anr, anG, rD⟩
def amT : Fx := AF0 [ya]
theorem aos : AX abm := Afs (F := amT) (fn := Tryz.f199) (m := []) (ag ⟨agy, trivial⟩) Tryz.func199 trivial
def apO : Shape := ⟨[(0, .dat aY), (1, DI)], []⟩
def aqh : Shape := ⟨[(0, .dat aY)], []⟩
def adH : Ent := ⟨200, apO, aqh, qn⟩
def ap6 : Fx := AF0 []
theorem aq8 : AX adH := Afs (F := ap6) (fn := Tryz.f200) (m := []) (ag trivial) Tryz.func200 trivial
def arG : Shape := ⟨[(0, .dat aY), (1, DI)], []⟩
def ask : Shape := ⟨[(0, .dat aY)], []⟩
def afi : Ent := ⟨201, arG, ask, wv⟩
def aro : Fx := AF0 []
theorem atJ : AX afi := Afs (F := aro) (fn := Tryz.f201) (m := []) (ag trivial) Tryz.func201 trivial
def arD : Shape := ⟨[(0, DS), (1, DS)], []⟩
def ash : Shape := ⟨[(0, DB)], []⟩
def aff : Ent := ⟨202, arD, ash, ref10_Alike⟩
def arl : Fx := AF0 [yb, wO]
theorem atG : AX aff := Afs (F := arl) (fn := Tryz.f202) (m := []) (ag ⟨ag2, aeq, trivial⟩) Tryz.func202 trivial
def apN : Shape := ⟨[(0, .dat aH), (1, .dat am)], []⟩
def aqg : Shape := ⟨[(0, .dat aH)], []⟩
def adG : Ent := ⟨158, apN, aqg, xI⟩
def ap5 : Fx := AF0 [abm, adH, afi, aff]
theorem aq7 : AX adG := Afs (F := ap5) (fn := Tryz.f158) (m := []) (ag ⟨aos, aq8, atJ, atG, trivial⟩) Tryz.func158 trivial
def apL : Shape := ⟨[(0, .dat af)], []⟩
def aqe : Shape := ⟨[(0, .dat aY)], []⟩
def adE : Ent := ⟨198, apL, aqe, xG⟩
def ap3 : Fx := AF0 [ya]
theorem aq3 : AX adE := Afs (F := ap3) (fn := Tryz.f198) (m := []) (ag ⟨agy, trivial⟩) Tryz.func198 trivial
def ab4 : Lp := ⟨⟨[(0, .dat (.list af)), (2, .ptr 0 aY 0 []), (3, .ptr 1 aY 0 []), (4, DI)], [.box 204 aY (.agg [DI, DI]), .box 204 aY (.agg [DI, DI])]⟩, (.exit 0), ⟨[(2, .ptr 0 aY 0 []), (3, .ptr 1 aY 0 [])], [.box 204 aY (.agg [DI, DI]), .box 204 aY (.agg [DI, DI])]⟩, (.exit 80000000), ⟨[], []⟩⟩
def ar9 : Shape := ⟨[(0, .dat (.list af))], []⟩
def asd : Shape := ⟨[(0, .dat aY)], []⟩
def afb : Ent := ⟨156, ar9, asd, aad⟩
def yt : Fx := bj Acx (av [adE]) (fun k st => bif Nat.beq k 0 then ab4.go zh 0 st else .fail) 0
theorem ag8 : aC Tryz.prog (yt).Γ := ag ⟨aq3, trivial⟩
theorem aq4 : aJ Tryz.prog yt Tryz.f156.ntmps 0 (al (ah Tryz.f156) 0) := Als (L := ab4) (b := pu) (m := []) ag8 trivial
theorem at8 : AX afb := Afs (F := yt) (fn := Tryz.f156) (m := [(0, al (ah Tryz.f156) 0)]) ag8 Tryz.func156 ⟨aq4, trivial⟩

end D
/- Entries, by program. -/
open Go Go.X Go.Proofs D
namespace D
def arE : Shape := ⟨[(0, .dat aY)], []⟩
def asi : Shape := ⟨[(0, .dat aH)], []⟩
def afg : Ent := ⟨155, arE, asi, agA⟩
def arm : Fx := AF0 []
theorem atH : AX afg := Afs (F := arm) (fn := Tryz.f155) (m := []) (ag trivial) Tryz.func155 trivial
def afy : Lp := ⟨⟨[(1, .ptr 0 a8 0 []), (2, .ptr 1 aH 0 []), (3, .ptr 2 aH 0 []), (4, DI)], [.box 85 a8 (.dat a8), .box 95 aH (.agg [(.agg [DI, DI]), (.agg [DI, DI])]), .box 95 aH (.dat aH)]⟩, (.exit 0), ⟨[(1, .ptr 0 a8 0 []), (2, .ptr 1 aH 0 []), (3, .ptr 2 aH 0 [])], [.box 85 a8 (.dat a8), .box 95 aH (.agg [(.agg [DI, DI]), (.agg [DI, DI])]), .box 95 aH (.dat aH)]⟩, (.exit 80000000), ⟨[], []⟩⟩
def afz : Lp := ⟨⟨[(1, .ptr 0 a8 0 []), (2, .ptr 1 aH 0 []), (3, .ptr 2 aH 0 []), (5, DI)], [.box 85 a8 (.dat a8), .box 95 aH (.agg [(.agg [DI, DI]), (.agg [DI, DI])]), .box 95 aH (.dat aH)]⟩, (.exit 2), ⟨[(2, .ptr 0 aH 0 []), (3, .ptr 1 aH 0 [])], [.box 95 aH (.agg [(.agg [DI, DI]), (.agg [DI, DI])]), .box 95 aH (.dat aH)]⟩, (.exit 80000002), ⟨[], []⟩⟩
def axK : Shape := ⟨[(0, .dat a8)], []⟩
def ayj : Shape := ⟨[(0, .dat aH)], []⟩
def akM : Ent := ⟨105, axK, ayj, sY⟩
def xy : Fx := bj Acx (av [ain, adG, afb, afg]) (fun k st => bif Nat.beq k 0 then afy.go adh 0 st else bif Nat.beq k 2 then afz.go adi 0 st else .fail) 0
theorem adg : aC Tryz.prog (xy).Γ := ag ⟨aw3, aq7, at8, atH, trivial⟩
theorem aw4 : aJ Tryz.prog xy Tryz.f105.ntmps 0 (al (ah Tryz.f105) 0) := Als (L := afy) (b := uz) (m := []) adg trivial
theorem aw5 : aJ Tryz.prog xy Tryz.f105.ntmps 2 (al (ah Tryz.f105) 1) := Als (L := afz) (b := u0) (m := []) adg trivial
theorem ayW : AX akM := Afs (F := xy) (fn := Tryz.f105) (m := [(0, al (ah Tryz.f105) 0), (2, al (ah Tryz.f105) 1)]) adg Tryz.func105 ⟨aw4, aw5, trivial⟩
def avm : Shape := ⟨[(0, .dat (.int .u8))], []⟩
def avL : Shape := ⟨[(0, DS)], []⟩
def aa1 : Ent := ⟨54, avm, avL, li⟩
def auG : Fx := AF0 []
theorem ajj : AX aa1 := Afs (F := auG) (fn := Tryz.f54) (m := []) (ag trivial) Tryz.func54 trivial
def axJ : Shape := ⟨[(0, .dat (.int .u8))], []⟩
def ayi : Shape := ⟨[(0, DS)], []⟩
def akL : Ent := ⟨52, axJ, ayi, xT⟩
def axy : Fx := AF0 [aa1]
theorem ayV : AX akL := Afs (F := axy) (fn := Tryz.f52) (m := []) (ag ⟨ajj, trivial⟩) Tryz.func52 trivial
def zL : Lp := ⟨⟨[(0, DS), (2, .ptr 0 ac 0 []), (3, DI)], [.box 39 ac (.agg [DS, DS])]⟩, (.exit 0), ⟨[(0, DS), (2, .ptr 0 ac 0 []), (3, DI)], [.box 39 ac (.agg [DS, DS])]⟩, (.exit 80000000), ⟨[], []⟩⟩
def apK : Shape := ⟨[(0, DS)], []⟩
def aqd : Shape := ⟨[(0, .dat ac)], []⟩
def rV : Ent := ⟨53, apK, aqd, jl⟩
def wS : Fx := bj Acx (av []) (fun k st => bif Nat.beq k 0 then zL.go aet 0 st else .fail) 0
theorem aes : aC Tryz.prog (wS).Γ := ag trivial
theorem aor : aJ Tryz.prog wS Tryz.f53.ntmps 0 (al (ah Tryz.f53) 0) := Als (L := zL) (b := aer) (m := []) aes trivial
theorem wZ : AX rV := Afs (F := wS) (fn := Tryz.f53) (m := [(0, al (ah Tryz.f53) 0)]) aes Tryz.func53 ⟨aor, trivial⟩
def apI : Shape := ⟨[(0, DS), (1, DS)], []⟩
def aqb : Shape := ⟨[(0, DB)], []⟩
def adC : Ent := ⟨56, apI, aqb, uv⟩
def ap1 : Fx := AF0 []
theorem aq0 : AX adC := Afs (F := ap1) (fn := Tryz.f56) (m := []) (ag trivial) Tryz.func56 trivial
def arC : Shape := ⟨[(0, .dat (.int .u8))], []⟩
def asg : Shape := ⟨[(0, DS)], []⟩
def afe : Ent := ⟨57, arC, asg, px⟩
def ark : Fx := AF0 []
theorem atE : AX afe := Afs (F := ark) (fn := Tryz.f57) (m := []) (ag trivial) Tryz.func57 trivial
def axF : Shape := ⟨[(0, DS)], []⟩
def aye : Shape := ⟨[(0, .dat ac)], []⟩
def acx : Ent := ⟨55, axF, aye, vw⟩
def axv : Fx := AF0 []
theorem aml : AX acx := Afs (F := axv) (fn := Tryz.f55) (m := []) (ag trivial) Tryz.func55 trivial
def bU : Lp := ⟨⟨[(1, .ptr 0 (.pair (.int .u8) (.pair (.int .u8) (.pair (.int .u8) (.pair (.int .u8) (.pair (.int .u8) (.pair (.int .u8) .unit)))))) 0 []), (2, .ptr 1 am 0 []), (3, DS), (5, .ptr 2 ac 0 []), (6, DS), (7, DS), (63, DB)], [.box 28 (.pair (.int .u8) (.pair (.int .u8) (.pair (.int .u8) (.pair (.int .u8) (.pair (.int .u8) (.pair (.int .u8) .unit)))))) (.dat (.pair (.int .u8) (.pair (.int .u8) (.pair (.int .u8) (.pair (.int .u8) (.pair (.int .u8) (.pair (.int .u8) .unit))))))), .box 41 am (.agg [DI, DS, DS, (.agg [DS, DS]), DS, DS, DI]), .box 39 ac (.dat ac)]⟩, .nrm, ⟨[(1, .ptr 0 (.pair (.int .u8) (.pair (.int .u8) (.pair (.int .u8) (.pair (.int .u8) (.pair (.int .u8) (.pair (.int .u8) .unit)))))) 0 []), (2, .ptr 1 am 0 []), (3, DS), (5, .ptr 2 ac 0 []), (6, DS), (7, DS)], [.box 28 (.pair (.int .u8) (.pair (.int .u8) (.pair (.int .u8) (.pair (.int .u8) (.pair (.int .u8) (.pair (.int .u8) .unit)))))) (.dat (.pair (.int .u8) (.pair (.int .u8) (.pair (.int .u8) (.pair (.int .u8) (.pair (.int .u8) (.pair (.int .u8) .unit))))))), .box 41 am (.agg [DI, DS, DS, (.agg [DS, DS]), DS, DS, DI]), .box 39 ac (.dat ac)]⟩, (.exit 90100013), ⟨[], []⟩⟩
def dz : Lp := ⟨⟨[(1, .ptr 0 (.pair (.int .u8) (.pair (.int .u8) (.pair (.int .u8) (.pair (.int .u8) (.pair (.int .u8) (.pair (.int .u8) .unit)))))) 0 []), (2, .ptr 1 am 0 []), (3, DS), (5, .ptr 2 ac 0 []), (6, DS), (7, DS)], [.box 28 (.pair (.int .u8) (.pair (.int .u8) (.pair (.int .u8) (.pair (.int .u8) (.pair (.int .u8) (.pair (.int .u8) .unit)))))) (.dat (.pair (.int .u8) (.pair (.int .u8) (.pair (.int .u8) (.pair (.int .u8) (.pair (.int .u8) (.pair (.int .u8) .unit))))))), .box 41 am (.agg [DI, DS, DS, (.agg [DS, DS]), DS, DS, DI]), .box 39 ac (.dat ac)]⟩, .ret, ⟨[(2, .ptr 0 am 0 [])], [.box 41 am (.agg [DI, DS, DS, (.dat ac), DS, DS, DI])]⟩, (.exit 90000016), ⟨[], []⟩⟩
def dy : Lp := ⟨⟨[(1, .ptr 0 (.pair (.int .u8) (.pair (.int .u8) (.pair (.int .u8) (.pair (.int .u8) (.pair (.int .u8) (.pair (.int .u8) .unit)))))) 0 []), (2, .ptr 1 am 0 []), (3, DS), (5, .ptr 2 ac 0 [])], [.box 28 (.pair (.int .u8) (.pair (.int .u8) (.pair (.int .u8) (.pair (.int .u8) (.pair (.int .u8) (.pair (.int .u8) .unit)))))) (.dat (.pair (.int .u8) (.pair (.int .u8) (.pair (.int .u8) (.pair (.int .u8) (.pair (.int .u8) (.pair (.int .u8) .unit))))))), .box 41 am (.agg [DI, DS, DS, (.agg [DS, DS]), DS, DS, DI]), .box 39 ac (.dat ac)]⟩, .ret, ⟨[(2, .ptr 0 am 0 [])], [.box 41 am (.agg [DI, DS, DS, (.dat ac), DS, DS, DI])]⟩, (.exit 90000011), ⟨[], []⟩⟩
def avl : Shape := ⟨[(0, .dat (.pair (.int .u8) (.pair (.int .u8) (.pair (.int .u8) (.pair (.int .u8) (.pair (.int .u8) (.pair (.int .u8) .unit)))))))], []⟩
def avK : Shape := ⟨[(0, .dat am)], []⟩
def kY : Ent := ⟨14, avl, avK, zk⟩
def cX : Fx := AF0 [aa1, akL, rV, adC, afe, acx]
def jn : ahG := [(100013, bU.go cV 0), (16, dz.go fb 0), (11, dy.go bX 0)]
theorem aeF (s : bU.S.ty.den) : @Eq (Option bU.Out) ((evK cX jn (bI (ah Tryz.f14) 100013) 0 (bU.S.enc s)).bind fun (e, st) => bU.out (cX).m e st).val (cV s) := by kernel_rfl
theorem amr (s : dz.S.ty.den) : @Eq (Option dz.Out) ((evK cX jn (bI (ah Tryz.f14) 16) 0 (dz.S.enc s)).bind fun (e, st) => dz.out (cX).m e st).val (fb s) := by kernel_rfl
theorem amp (s : dy.S.ty.den) : @Eq (Option dy.Out) ((evK cX jn (bI (ah Tryz.f14) 11) 0 (dy.S.enc s)).bind fun (e, st) => dy.out (cX).m e st).val (bX s) := by kernel_rfl
theorem awz (s : (kY).S.ty.den) : (aoI cX jn Tryz.f14 (kY).S (kY).Z s).val = (kY).g s := by kernel_rfl
theorem vP : aC Tryz.prog (cX).Γ := ag ⟨ajj, ayV, wZ, aq0, atE, aml, trivial⟩
theorem aeG : qD Tryz.prog cX Tryz.f14.ntmps (bU.go cV 0) (bI (ah Tryz.f14) 100013) :=
  fj gZ vP bC (L := bU) (k := 0) (f := cV) (C := jn) (l := []) (m := []) (by kernel_rfl) trivial (by kernel_rfl) trivial (by kernel_rfl) (bl _ (by kernel_rfl)) aeF
theorem ams : qD Tryz.prog cX Tryz.f14.ntmps (dz.go fb 0) (bI (ah Tryz.f14) 16) :=
  fj gZ vP bC (L := dz) (k := 0) (f := fb) (C := jn) (l := []) (m := []) (by kernel_rfl) trivial (by kernel_rfl) trivial (by kernel_rfl) (bl _ (by kernel_rfl)) amr
theorem amq : qD Tryz.prog cX Tryz.f14.ntmps (dy.go bX 0) (bI (ah Tryz.f14) 11) :=
  fj gZ vP bC (L := dy) (k := 0) (f := bX) (C := jn) (l := []) (m := [(bU.go cV 0, bI (ah Tryz.f14) 100013), (dz.go fb 0, bI (ah Tryz.f14) 16)]) (by kernel_rfl) trivial (by kernel_rfl) ⟨aeG, ams, trivial⟩ (by kernel_rfl) (bl _ (by kernel_rfl)) amp
theorem aw0 : EntOK Tryz.prog kY :=
  yG (C := jn) (F := cX) gZ vP bC (fn := Tryz.f14) (l := []) (m := [(dy.go bX 0, bI (ah Tryz.f14) 11)]) Tryz.func14 (by kernel_rfl) (by kernel_rfl) (by kernel_rfl) trivial (by kernel_rfl) ⟨amq, trivial⟩ (bl _ (by kernel_rfl)) (by kernel_rfl) awz
theorem aw1 : AX kY := (aw0).x (by kernel_rfl)
def adT : Lp := ⟨⟨[(0, .dat (.list (.pair (.int .u8) (.pair (.int .u8) (.pair (.int .u8) (.pair (.int .u8) (.pair (.int .u8) (.pair (.int .u8) .unit)))))))), (1, DI), (5, .own am 0), (6, DI)], [.arr 41 am false]⟩, (.exit 0), ⟨[(5, .own am 0)], [.arr 41 am false]⟩, (.exit 80000000), ⟨[], []⟩⟩
def avk : Shape := ⟨[(0, .dat (.list (.pair (.int .u8) (.pair (.int .u8) (.pair (.int .u8) (.pair (.int .u8) (.pair (.int .u8) (.pair (.int .u8) .unit)))))))), (1, DI)], []⟩
def avJ : Shape := ⟨[(0, .own am 0)], [.arr 41 am false]⟩
def ail : Ent := ⟨41, avk, avJ, ade⟩
def aaC : Fx := bj Acx (av [kY]) (fun k st => bif Nat.beq k 0 then adT.go aaS 0 st else .fail) 0
theorem aji : aC Tryz.prog (aaC).Γ := ag ⟨aw1, trivial⟩
theorem atC : aJ Tryz.prog aaC Tryz.f41.ntmps 0 (al (ah Tryz.f41) 0) := Als (L := adT) (b := np) (m := []) aji trivial
theorem awy : AX ail := Afs (F := aaC) (fn := Tryz.f41) (m := [(0, al (ah Tryz.f41) 0)]) aji Tryz.func41 ⟨atC, trivial⟩
def arB : Shape := ⟨[(0, .dat am)], []⟩
def asf : Shape := ⟨[(0, .own ac 0)], [.arr 39 ac false]⟩
def afd : Ent := ⟨203, arB, asf, aaf⟩
def arj : Fx := AF0 [rV]
theorem atD : AX afd := Afs (F := arj) (fn := Tryz.f203) (m := []) (ag ⟨wZ, trivial⟩) Tryz.func203 trivial
def apM : Shape := ⟨[(0, .dat am)], []⟩
def aqf : Shape := ⟨[(0, .own ac 0)], [.arr 39 ac false]⟩
def adF : Ent := ⟨26, apM, aqf, xH⟩
def ap4 : Fx := AF0 [rV, acx]
theorem aq6 : AX adF := Afs (F := ap4) (fn := Tryz.f26) (m := []) (ag ⟨wZ, aml, trivial⟩) Tryz.func26 trivial
def apJ : Shape := ⟨[(0, .dat ac), (1, .dat ac)], []⟩
def aqc : Shape := ⟨[(0, DB)], []⟩
def adD : Ent := ⟨204, apJ, aqc, xF⟩
def ap2 : Fx := AF0 [aa0, yc]
theorem aq1 : AX adD := Afs (F := ap2) (fn := Tryz.f204) (m := []) (ag ⟨ajd, ag6, trivial⟩) Tryz.func204 trivial
def adU : Lp := ⟨⟨[(3, .ptr 0 ac 0 []), (5, .own ac 1), (6, DI)], [.box 39 ac (.dat ac), .arr 39 ac false]⟩, .ret, ⟨[(4, DB)], []⟩, (.exit 0), ⟨[], []⟩⟩
def avn : Shape := ⟨[(0, .dat am), (1, .dat ac)], []⟩
def avM : Shape := ⟨[(0, DB)], []⟩
def aim : Ent := ⟨159, avn, avM, adf⟩
def aaD : Fx := bj Acx (av [afd, adF, adD]) (fun k st => bif Nat.beq k 0 then adU.go aaT 0 st else .fail) 0
theorem ajk : aC Tryz.prog (aaD).Γ := ag ⟨atD, aq6, aq1, trivial⟩
theorem atF : aJ Tryz.prog aaD Tryz.f159.ntmps 0 (al (ah Tryz.f159) 0) := Als (L := adU) (b := rC) (m := []) ajk trivial
theorem aw2 : AX aim := Afs (F := aaD) (fn := Tryz.f159) (m := [(0, al (ah Tryz.f159) 0)]) ajk Tryz.func159 ⟨atF, trivial⟩
def y6 : Lp := ⟨⟨[(2, DI), (4, .ptr 0 ac 0 []), (7, .own am 1), (8, .own am 2), (9, DI)], [.box 39 ac (.dat ac), .arr 41 am false, .arr 41 am false]⟩, (.exit 0), ⟨[(7, .own am 0)], [.arr 41 am false]⟩, (.exit 80000000), ⟨[], []⟩⟩
def ant : Shape := ⟨[(0, .dat (.list (.pair (.int .u8) (.pair (.int .u8) (.pair (.int .u8) (.pair (.int .u8) (.pair (.int .u8) (.pair (.int .u8) .unit)))))))), (1, .dat ac), (2, DI)], []⟩
def anI : Shape := ⟨[(0, .own am 0)], [.arr 41 am false]⟩
def abo : Ent := ⟨107, ant, anI, lj⟩
def vk : Fx := bj Acx (av [ail, aim]) (fun k st => bif Nat.beq k 0 then y6.go v8 0 st else .fail) 0
theorem acg : aC Tryz.prog (vk).Γ := ag ⟨awy, aw2, trivial⟩
theorem amy : aJ Tryz.prog vk Tryz.f107.ntmps 0 (al (ah Tryz.f107) 0) := Als (L := y6) (b := gK) (m := []) acg trivial
theorem aov : AX abo := Afs (F := vk) (fn := Tryz.f107) (m := [(0, al (ah Tryz.f107) 0)]) acg Tryz.func107 ⟨amy, trivial⟩
def jG : Lp := ⟨⟨[(1, .dat (.list af)), (3, .dat (.list (.list .str))), (5, .ptr 0 aq 0 []), (7, .ptr 1 ac 0 []), (9, .ptr 2 dt 0 []), (10, .ptr 3 aB 0 []), (11, .own .str 4), (12, DI)], [.box 32 aq (.dat aq), .box 39 ac (.dat ac), .box 26 dt (.dat dt), .box 114 aB (.agg [(.agg [(.dat (.list aN))]), DI]), .arr 9 .str false]⟩, (.exit 0), ⟨[(1, .dat (.list af)), (3, .dat (.list (.list .str))), (5, .ptr 0 aq 0 []), (7, .ptr 1 ac 0 []), (9, .ptr 2 dt 0 []), (10, .ptr 3 aB 0 []), (11, .own .str 4)], [.box 32 aq (.dat aq), .box 39 ac (.dat ac), .box 26 dt (.dat dt), .box 114 aB (.agg [(.agg [(.dat (.list aN))]), DI]), .arr 9 .str false]⟩, (.exit 80000000), ⟨[], []⟩⟩
def jH : Lp := ⟨⟨[(1, .dat (.list af)), (3, .dat (.list (.list .str))), (5, .ptr 0 aq 0 []), (7, .ptr 1 ac 0 []), (9, .ptr 2 dt 0 []), (10, .ptr 3 aB 0 []), (14, .ptr 4 a8 0 []), (16, .own ac 5), (17, DI)], [.box 32 aq (.dat aq), .box 39 ac (.dat ac), .box 26 dt (.dat dt), .box 114 aB (.agg [(.agg [(.dat (.list aN))]), DI]), .box 85 a8 (.agg [(.dat (.list af)), (.own .str 6), (.own (.int .i64) 7), (.own aH 8), (.dat (.list am))]), .arr 39 ac false, .arr 9 .str true, .arr 3 (.int .i64) false, .arr 95 aH false]⟩, (.exit 2), ⟨[(5, .ptr 0 aq 0 []), (7, .ptr 1 ac 0 []), (9, .ptr 2 dt 0 []), (10, .ptr 3 aB 0 []), (14, .ptr 4 a8 0 [])], [.box 32 aq (.dat aq), .box 39 ac (.dat ac), .box 26 dt (.dat dt), .box 114 aB (.agg [(.agg [(.dat (.list aN))]), DI]), .box 85 a8 (.agg [(.dat (.list af)), (.own .str 5), (.own (.int .i64) 6), (.own aH 7), (.dat (.list am))]), .arr 9 .str true, .arr 3 (.int .i64) false, .arr 95 aH false]⟩, (.exit 80000002), ⟨[], []⟩⟩
def jI : Lp := ⟨⟨[(10, .ptr 0 aB 0 []), (14, .ptr 1 a8 0 []), (22, .ptr 2 bv 0 []), (23, .ptr 3 aq 0 []), (24, DI)], [.box 114 aB (.agg [(.agg [(.dat (.list aN))]), DI]), .box 85 a8 (.agg [(.dat (.list af)), (.own .str 4), (.own (.int .i64) 5), (.own aH 6), (.own am 7)]), .box 149 bv (.dat bv), .box 32 aq (.dat aq), .arr 9 .str true, .arr 3 (.int .i64) true, .arr 95 aH true, .arr 41 am true]⟩, (.exit 4), ⟨[(10, .ptr 0 aB 0 []), (22, .ptr 1 bv 0 []), (23, .ptr 2 aq 0 [])], [.box 114 aB (.agg [(.agg [(.dat (.list aN))]), DI]), .box 149 bv (.dat bv), .box 32 aq (.dat aq)]⟩, (.exit 80000004), ⟨[], []⟩⟩
def yd : Ent := ⟨50, lG, lI, aah⟩
def eP (ref12_build_r : (aj × (List ae) × aa × (List (List (List UInt8))) × aF × Unit) -> Option (aO × Unit)) : Fx := bj Acx (av [ac0, aa2, (jF ref12_build_r), acy, afc, afh, ac1, akM, abo]) (fun k st => bif Nat.beq k 0 then jG.go (uD ref12_build_r) 0 st else bif Nat.beq k 2 then jH.go (uE ref12_build_r) 0 st else bif Nat.beq k 4 then jI.go (uF ref12_build_r) 0 st else .fail) 0
theorem amv (ref12_build_r : (aj × (List ae) × aa × (List (List (List UInt8))) × aF × Unit) -> Option (aO × Unit)) (s : jG.S.ty.den) : @Eq (Option (jG.S.ty.den ⊕ jG.Out)) (jG.body (eP ref12_build_r) (al (ah Tryz.f50) 0) 0 s).val (lO ref12_build_r s) := by kernel_rfl
theorem amw (ref12_build_r : (aj × (List ae) × aa × (List (List (List UInt8))) × aF × Unit) -> Option (aO × Unit)) (s : jH.S.ty.den) : @Eq (Option (jH.S.ty.den ⊕ jH.Out)) (jH.body (eP ref12_build_r) (al (ah Tryz.f50) 1) 2 s).val (kc ref12_build_r s) := by kernel_rfl
theorem amx (ref12_build_r : (aj × (List ae) × aa × (List (List (List UInt8))) × aF × Unit) -> Option (aO × Unit)) (s : jI.S.ty.den) : @Eq (Option (jI.S.ty.den ⊕ jI.Out)) (jI.body (eP ref12_build_r) (al (ah Tryz.f50) 2) 4 s).val (lP ref12_build_r s) := by kernel_rfl
theorem atL (ref12_build_r : (aj × (List ae) × aa × (List (List (List UInt8))) × aF × Unit) -> Option (aO × Unit)) (s : lG.ty.den) : @Eq (Option lI.ty.den) (aoc (eP ref12_build_r) Tryz.f50 lG lI s).val (gJ ref12_build_r s) := by kernel_rfl
theorem uB (ref12_build_r : (aj × (List ae) × aa × (List (List (List UInt8))) × aF × Unit) -> Option (aO × Unit)) (ref12_build_r_ok : EntOK Tryz.prog (jF ref12_build_r)) : aC Tryz.prog (eP ref12_build_r).Γ := ag ⟨amt, ajm, (ref12_build_r_ok.x (by kernel_rfl)), amm, atA, atI, amu, ayW, aov, trivial⟩
theorem aqA (ref12_build_r : (aj × (List ae) × aa × (List (List (List UInt8))) × aF × Unit) -> Option (aO × Unit)) (ref12_build_r_ok : EntOK Tryz.prog (jF ref12_build_r)) : aJ Tryz.prog (eP ref12_build_r) Tryz.f50.ntmps 0 (al (ah Tryz.f50) 0) :=
  sT gZ (uB ref12_build_r ref12_build_r_ok) bC (L := jG) (f := uD ref12_build_r) (b := lO ref12_build_r) (m := []) (fun _ => rfl) (by kernel_rfl) (by kernel_rfl) trivial (by kernel_rfl) (bl _ (by kernel_rfl)) (amv ref12_build_r)
theorem aqB (ref12_build_r : (aj × (List ae) × aa × (List (List (List UInt8))) × aF × Unit) -> Option (aO × Unit)) (ref12_build_r_ok : EntOK Tryz.prog (jF ref12_build_r)) : aJ Tryz.prog (eP ref12_build_r) Tryz.f50.ntmps 2 (al (ah Tryz.f50) 1) :=
  sT gZ (uB ref12_build_r ref12_build_r_ok) bC (L := jH) (f := uE ref12_build_r) (b := kc ref12_build_r) (m := []) (fun _ => rfl) (by kernel_rfl) (by kernel_rfl) trivial (by kernel_rfl) (bl _ (by kernel_rfl)) (amw ref12_build_r)
theorem aqC (ref12_build_r : (aj × (List ae) × aa × (List (List (List UInt8))) × aF × Unit) -> Option (aO × Unit)) (ref12_build_r_ok : EntOK Tryz.prog (jF ref12_build_r)) : aJ Tryz.prog (eP ref12_build_r) Tryz.f50.ntmps 4 (al (ah Tryz.f50) 2) :=
  sT gZ (uB ref12_build_r ref12_build_r_ok) bC (L := jI) (f := uF ref12_build_r) (b := lP ref12_build_r) (m := []) (fun _ => rfl) (by kernel_rfl) (by kernel_rfl) trivial (by kernel_rfl) (bl _ (by kernel_rfl)) (amx ref12_build_r)
theorem ahU (ref12_build_r : (aj × (List ae) × aa × (List (List (List UInt8))) × aF × Unit) -> Option (aO × Unit)) (ref12_build_r_ok : EntOK Tryz.prog (jF ref12_build_r)) : EntOK Tryz.prog ⟨50, lG, lI, gJ ref12_build_r⟩ :=
  sR (F := (eP ref12_build_r)) gZ (uB ref12_build_r ref12_build_r_ok) bC (fn := Tryz.f50) (m := [(0, al (ah Tryz.f50) 0), (2, al (ah Tryz.f50) 1), (4, al (ah Tryz.f50) 2)]) Tryz.func50 (by kernel_rfl) (by kernel_rfl) (by kernel_rfl) ⟨aqA ref12_build_r ref12_build_r_ok, aqB ref12_build_r ref12_build_r_ok, aqC ref12_build_r ref12_build_r_ok, trivial⟩ (bl _ (by kernel_rfl)) (by kernel_rfl) (atL ref12_build_r)
theorem xq : ∀ n, EntOK Tryz.prog ⟨50, lG, lI, jP n⟩
  | 0 => alD
  | n + 1 => ahU _ (xq n)
theorem atM : EntOK Tryz.prog yd := xq aqr
theorem atN : AX yd := (atM).x (by kernel_rfl)
def avr : Shape := ⟨[(0, .dat dt)], []⟩
def avQ : Shape := ⟨[(0, .dat bo)], []⟩
def aio : Ent := ⟨13, avr, avQ, adn⟩
def auJ : Fx := AF0 [aij, yd]
theorem aw9 : AX aio := Afs (F := auJ) (fn := Tryz.f13) (m := []) (ag ⟨awu, atN, trivial⟩) Tryz.func13 trivial
def adL : Lp := ⟨⟨[(1, .own .str 0), (2, .dat (.int .u8))], [.arr 9 .str false]⟩, (.exit 0), ⟨[(1, .own .str 0)], [.arr 9 .str false]⟩, (.exit 80000000), ⟨[], []⟩⟩
def auS : Shape := ⟨[], []⟩
def av1 : Shape := ⟨[(0, .own .str 0)], [.arr 9 .str false]⟩
def aia : Ent := ⟨23, auS, av1, sz⟩
def aa6 : Fx := bj Acx (av [acz]) (fun k st => bif Nat.beq k 0 then adL.go ai7 0 st else .fail) 0
theorem ai6 : aC Tryz.prog (aa6).Γ := ag ⟨amn, trivial⟩
theorem asZ : aJ Tryz.prog aa6 Tryz.f23.ntmps 0 (al (ah Tryz.f23) 0) := Als (L := adL) (b := ai5) (m := []) ai6 trivial
theorem awg : AX aia := Afs (F := aa6) (fn := Tryz.f23) (m := [(0, al (ah Tryz.f23) 0)]) ai6 Tryz.func23 ⟨asZ, trivial⟩
def ax5 : Shape := ⟨[(0, .dat bo), (1, DS)], []⟩
def axU : Shape := ⟨[(0, .dat auz)], []⟩
def akE : Ent := ⟨24, ax5, axU, aof⟩
def axn : Fx := AF0 [afp]
theorem ayB : AX akE := Afs (F := axn) (fn := Tryz.f24) (m := []) (ag ⟨a08, trivial⟩) Tryz.func24 trivial
def zM : Lp := ⟨⟨[(1, .ptr 0 bo 0 []), (3, DI), (4, .ptr 1 a8 0 [])], [.box 36 bo (.dat bo), .box 85 a8 (.dat a8)]⟩, (.exit 0), ⟨[(3, DI)], []⟩, (.exit 80000000), ⟨[], []⟩⟩
def apQ : Shape := ⟨[(0, .dat bo)], []⟩
def aqj : Shape := ⟨[(0, DI)], []⟩
def adI : Ent := ⟨33, apQ, aqj, xK⟩
def wT : Fx := bj Acx (av [ac1]) (fun k st => bif Nat.beq k 0 then zM.go xd 0 st else .fail) 0
theorem aev : aC Tryz.prog (wT).Γ := ag ⟨amu, trivial⟩
theorem aou : aJ Tryz.prog wT Tryz.f33.ntmps 0 (al (ah Tryz.f33) 0) := Als (L := zM) (b := mT) (m := []) aev trivial
theorem aq9 : AX adI := Afs (F := wT) (fn := Tryz.f33) (m := [(0, al (ah Tryz.f33) 0)]) aev Tryz.func33 ⟨aou, trivial⟩
def uR : Lp := ⟨⟨[(5, DB), (6, .ptr 0 bo 0 []), (7, DI), (8, .own .str 1), (9, DI)], [.box 36 bo (.dat bo), .arr 9 .str false]⟩, .ret, ⟨[(4, DB)], []⟩, (.exit 0), ⟨[(5, DB), (6, .ptr 0 bo 0 []), (7, DI)], [.box 36 bo (.dat bo)]⟩⟩
def ah7 : Shape := ⟨[(0, .dat dt), (1, .dat (.int .u8))], []⟩
def ahC : Shape := ⟨[(0, DB)], []⟩
def qH : Ent := ⟨6, ah7, ahC, jO⟩
def qJ : Fx := bj Acx (av [yi, wM, aio, aia, akE, adI]) (fun k st => bif Nat.beq k 0 then uR.go qT 0 st else .fail) 0
theorem xm : aC Tryz.prog (qJ).Γ := ag ⟨auu, aqu, aw9, awg, ayB, aq9, trivial⟩
theorem afU : aJ Tryz.prog qJ Tryz.f6.ntmps 0 (al (ah Tryz.f6) 0) := Als (L := uR) (b := lB) (m := []) xm trivial
theorem ahI : EntOK Tryz.prog qH := Afk (F := qJ) (fn := Tryz.f6) (m := [(0, al (ah Tryz.f6) 0)]) xm Tryz.func6 ⟨afU, trivial⟩
end D
