/- Entries, by program. -/
import Derived.Test.YtmmmpanpbphkdaaGreatDoorL
import Derived.Test.YtmmmpanpbphkdaaGreatDoorD
import Derived.Test.YtmmmpanpbphkdaaGreatDoorChecked
set_option linter.unusedVariables false
set_option maxRecDepth 100000
open Go Go.X Go.Proofs D
namespace D
abbrev DB : SK := .dat .bool
abbrev DS : SK := .dat .str
abbrev DI : SK := .dat (.int .i64)
abbrev Qb : SK := .agg [DB, DB, (.agg [DS, DS, DI]), DS, DB, DI]
abbrev Qc : Ty := .pair (.int .u8) (.pair (.int .u8) .unit)
abbrev Qd : Shape := ⟨[(0, DB)], []⟩
abbrev Qf : Shape := ⟨[(0, .dat ah)], []⟩
abbrev Qg : SK := .agg [(.dat (.list aB))]
abbrev Qh : List SO := [.loop 1012800 [(5, .ptr 2 aw 0 []), (4, .ptr 3 aw 0 [])], .box 83 (.list ah) (.dat (.list ah)), .box 190 aw Qb, .box 190 aw Qb]
abbrev Qi : Shape := ⟨[(0, .own af 0)], [.arr 39 af false]⟩
abbrev Qj : List SO := [.box 36 aD (.dat aD), .box 3 (.int .i64) DI, .box 127 .opq (.fn 65 [] [(.ptr 0 aD 0 []), (.ptr 1 (.int .i64) 0 []), (.ptr 2 .opq 0 [])])]
abbrev Qk : Shape := ⟨[(0, DS)], []⟩
abbrev Qm : Shape := ⟨[(0, DS), (1, DS)], []⟩
abbrev Qn : Shape := ⟨[(0, .ptr 0 aw 0 []), (1, .dat ah)], [.box 190 aw Qb]⟩
abbrev Qo : List SO := [.arr 41 ah false, .box 39 af (.dat af)]
abbrev Qp : List SO := [.box 32 ak Qg, .box 32 ak (.agg [(.own aB 2)]), .arr 87 aB false]
abbrev Qq : Shape := ⟨[(4, .ptr 0 ag 0 []), (5, .ptr 1 .bool 0 []), (6, .ptr 2 (.int .i64) 0 []), (7, DI), (1000000000, .dfr 129 [(.ptr 2 (.int .i64) 0 [])] [(.ptr 0 ag 0 []), (.ptr 1 .bool 0 [])] aw)], [.box 58 ag (.dat ag), .box 4 .bool DB, .box 3 (.int .i64) DI]⟩
abbrev Qr : List SO := [.box 32 ak (.dat ak), .box 85 az (.dat az), .box 149 aN (.agg [Qg, DI, DI])]
abbrev Qs : List SO := [.arr 39 af false, .box 39 af (.dat af)]
abbrev Qt : Shape := ⟨[(0, .dat ah), (1, .dat (.list ag))], []⟩
abbrev Qu : Shape := ⟨[(0, .dat ak), (1, DI)], []⟩
abbrev Qv : Shape := ⟨[(0, DI)], []⟩
abbrev Qw : Shape := ⟨[(0, .dat af)], []⟩
abbrev Qy : Shape := ⟨[(2, .ptr 0 aD 0 []), (3, .ptr 1 ah 0 []), (5, .own (.int .i64) 2), (6, .own af 3), (7, DI)], [.box 36 aD (.dat aD), .box 41 ah (.dat ah), .arr 3 (.int .i64) false, .arr 39 af false]⟩
abbrev QA : Shape := ⟨[(0, DB)], [.box 190 aw Qb]⟩
abbrev QB : List SO := [.box 39 af (.dat af), .arr 39 af false]
abbrev QC : List SO := [.arr 58 ag false]
abbrev Qe : Shape := ⟨[(0, .own ag 0)], QC⟩
abbrev QD : Shape := ⟨[(0, .dat (.list ag)), (1, .dat af)], []⟩
abbrev QE : Shape := ⟨[(4, DB)], []⟩
abbrev QF : Shape := ⟨[(0, DS), (2, .ptr 0 af 0 []), (3, .own (.int .u8) 1)], [.box 39 af (.agg [DS, DS]), .arr 5 (.int .u8) false]⟩
abbrev QG : List SO := [.box 32 ak (.dat ak), .box 39 af (.dat af), .box 26 cD (.dat cD), .box 114 bW (.agg [Qg, DI]), .arr 9 .str false]
abbrev QH : Shape := ⟨[(0, .dat bh)], []⟩
abbrev QI : SK := .agg [Qg, DI, (.agg [DI, DI, DI])]
abbrev QJ : SK := .agg [(.dat (.list ag)), (.dat (.list .str)), (.own (.int .i64) 4), (.own aQ 5), (.dat (.list ah))]
abbrev QK : Shape := ⟨[(1, .ptr 0 bg 0 [])], [.box 245 bg (.dat bg)]⟩
abbrev QL : Ty := .pair (.int .u8) Qc
abbrev Qa : Ty := .pair (.int .u8) (.pair (.int .u8) (.pair (.int .u8) QL))
abbrev Ql : List SO := [.box 28 Qa (.dat Qa), .box 41 ah (.agg [DI, DS, DS, (.agg [DS, DS]), DS, DS, DI]), .box 39 af (.dat af)]
abbrev QM : SK := .agg [DI, DI]
abbrev Qx : List SO := [.box 85 az (.dat az), .box 95 aQ (.agg [QM, QM]), .box 95 aQ (.dat aQ)]
abbrev QN : Shape := ⟨[(0, .dat (.int .u8))], []⟩
abbrev QO : List SO := [.loop 1012800 [(5, .ptr 1 aw 0 []), (4, .ptr 2 aw 0 [])], .box 190 aw Qb, .box 190 aw Qb]
abbrev QP : Shape := ⟨[(2, .ptr 0 ah 0 [])], [.box 41 ah (.agg [DI, DS, DS, (.dat af), DS, DS, DI])]⟩
abbrev QQ : List (Nat × SK) := [(1, .ptr 0 Qa 0 []), (2, .ptr 1 ah 0 []), (3, DS), (5, .ptr 2 af 0 []), (6, DS), (7, DS)]
abbrev QR : Shape := ⟨[(0, .dat (.list ag)), (1, DS)], []⟩
abbrev QS : Shape := ⟨[(0, DI), (1, DI)], []⟩
abbrev QT : Shape := ⟨[(0, DS), (2, .ptr 0 af 0 []), (3, DI)], [.box 39 af (.agg [DS, DS])]⟩
abbrev QU : Shape := ⟨[(0, .dat af), (1, .dat af)], []⟩
abbrev QV : Shape := ⟨[(2, DB)], []⟩
abbrev QW : Shape := ⟨[(0, .dat aQ)], []⟩
abbrev QX : Shape := ⟨[(0, .dat aD)], []⟩
abbrev QY : Shape := ⟨[(0, .dat (.list af)), (1, .dat (.list af)), (5, DI)], []⟩
abbrev QZ : List (Nat × SK) := [(2, .ptr 0 ak 0 []), (3, .ptr 1 az 0 []), (4, .ptr 2 aN 0 []), (6, DI)]
abbrev Q0 : Shape := ⟨[(0, .dat (.list ag))], []⟩
abbrev Q1 : List SO := [.arr 41 ah false]
abbrev Qz : Shape := ⟨[(0, .own ah 0)], Q1⟩
abbrev Q2 : Shape := ⟨[(0, .dat (.list ah))], []⟩
abbrev Q3 : List SO := [.box 39 af (.dat af)]
abbrev Q4 : List SO := [.box 32 ak (.dat ak), .box 85 az (.dat az), .box 32 ak Qg]
abbrev Q5 : Shape := ⟨[(0, .dat (.list ag)), (1, .dat (.list ag))], []⟩
def Acx : Cx := ⟨[(1, ⟨.opq, 0, [], 8, false, true, false, []⟩), (3, ⟨(.int .i64), 0, [], 8, false, false, false, []⟩), (4, ⟨.bool, 0, [], 1, false, false, false, []⟩), (5, ⟨(.int .u8), 0, [], 1, false, false, false, []⟩), (9, ⟨.str, 0, [], 16, false, false, false, []⟩), (20, ⟨.opq, 0, [], 16, false, false, true, []⟩), (21, ⟨(.int .i32), 0, [], 4, false, false, false, []⟩), (22, ⟨(.list QL), 168, [], 3, false, false, false, []⟩), (23, ⟨(.list Qa), 28, [], 6, false, false, false, []⟩), (24, ⟨(.pair (.list Qa) (.pair (.list Qa) (.pair (.list Qa) (.pair (.list Qa) .unit)))), 0, [23, 23, 23, 23], 96, false, true, false, []⟩), (26, ⟨cD, 0, [22, 24, 5], 128, false, false, false, []⟩), (28, ⟨Qa, 0, [5, 5, 5, 5, 5, 5], 6, false, true, false, []⟩), (30, ⟨(.list aB), 87, [], 136, false, false, false, []⟩), (32, ⟨ak, 0, [30], 24, false, false, false, []⟩), (34, ⟨vl, 0, [3, 3, 3], 24, true, false, false, []⟩), (36, ⟨aD, 0, [32, 3, 34], 56, false, false, false, []⟩), (39, ⟨af, 0, [9, 9], 32, true, false, false, []⟩), (41, ⟨ah, 0, [3, 9, 9, 39, 9, 9, 3], 112, true, false, false, []⟩), (43, ⟨(.int .i64), 0, [], 8, false, false, false, []⟩), (53, ⟨QL, 0, [5, 5, 5], 3, false, true, false, []⟩), (55, ⟨(.list .str), 9, [], 16, false, false, false, []⟩), (58, ⟨ag, 0, [9, 9, 3], 40, true, false, false, []⟩), (60, ⟨akK, 0, [58, 4, 3, 43], 64, true, false, false, []⟩), (62, ⟨(.list af), 39, [], 32, false, false, false, []⟩), (64, ⟨(.list ag), 58, [], 40, false, false, false, []⟩), (77, ⟨Qc, 0, [5, 5], 2, false, true, false, []⟩), (81, ⟨(.list (.int .i64)), 3, [], 8, false, false, false, []⟩), (82, ⟨(.list aQ), 95, [], 32, false, false, false, []⟩), (83, ⟨(.list ah), 41, [], 112, false, false, false, []⟩), (85, ⟨az, 0, [64, 55, 81, 82, 83], 120, false, false, false, []⟩), (87, ⟨aB, 0, [4, 4, 3, 85], 136, false, false, false, []⟩), (89, ⟨(.int .i16), 0, [], 2, false, false, false, []⟩), (90, ⟨(.pair (.int .i16) (.pair (.int .i16) (.pair (.int .i16) .unit))), 0, [89, 89, 89], 6, false, true, false, []⟩), (93, ⟨bh, 0, [3, 3], 16, true, false, false, []⟩), (95, ⟨aQ, 0, [93, 93], 32, true, false, false, []⟩), (100, ⟨.opq, 0, [], 8, false, true, false, []⟩), (108, ⟨bh, 0, [3, 3], 16, true, false, false, []⟩), (111, ⟨(.list (.list .str)), 55, [], 24, false, false, false, []⟩), (112, ⟨(.list (.list (.list .str))), 111, [], 24, false, false, false, []⟩), (114, ⟨bW, 0, [32, 3], 32, false, false, false, []⟩), (127, ⟨.opq, 0, [], 8, false, true, false, []⟩), (132, ⟨.opq, 0, [], 8, false, true, false, []⟩), (141, ⟨.opq, 0, [], 8, false, false, false, []⟩), (143, ⟨bW, 0, [32, 43], 32, false, false, false, []⟩), (144, ⟨.opq, 0, [], 8, false, true, false, []⟩), (145, ⟨.opq, 0, [], 8, false, true, false, []⟩), (149, ⟨aN, 0, [32, 3, 43], 40, false, false, false, []⟩), (156, ⟨.opq, 0, [], 8, false, true, false, []⟩), (158, ⟨.opq, 0, [], 8, false, true, false, []⟩), (159, ⟨.opq, 0, [], 8, false, true, false, []⟩), (160, ⟨.opq, 0, [], 8, false, true, false, []⟩), (164, ⟨ri, 0, [108], 16, true, false, false, []⟩), (168, ⟨QL, 0, [5, 5, 5], 3, false, true, false, []⟩), (169, ⟨(.list (.int .u8)), 5, [], 1, false, false, false, []⟩), (171, ⟨.opq, 0, [], 16, false, false, true, []⟩), (176, ⟨.opq, 0, [], 8, false, false, false, []⟩), (177, ⟨(.list (.list ah)), 83, [], 24, false, false, false, []⟩), (183, ⟨.str, 0, [], 16, false, false, false, []⟩), (190, ⟨aw, 0, [4, 4, 58, 9, 4, 3], 80, true, false, false, []⟩), (194, ⟨(.list .bool), 4, [], 1, false, false, false, []⟩), (195, ⟨.opq, 0, [], 8, false, true, false, []⟩), (204, ⟨bh, 0, [3, 3], 16, true, false, false, []⟩), (208, ⟨.opq, 0, [], 8, false, false, false, []⟩), (210, ⟨ah, 0, [3, 9, 9, 39, 9, 9, 3], 112, true, false, false, [("downspout/msg.apply", 319), ("downspout/msg.bare", 320), ("downspout/msg.reads", 321), ("downspout/msg.valid", 322), ("downspout/msg.writes", 324)]⟩), (211, ⟨ah, 0, [3, 9, 9, 39, 9, 9, 3], 112, true, false, false, [("downspout/msg.apply", 332), ("downspout/msg.bare", 333), ("downspout/msg.reads", 334), ("downspout/msg.valid", 335), ("downspout/msg.writes", 337)]⟩), (212, ⟨ah, 0, [3, 9, 9, 39, 9, 9, 3], 112, true, false, false, [("downspout/msg.apply", 343), ("downspout/msg.bare", 344), ("downspout/msg.reads", 345), ("downspout/msg.valid", 346), ("downspout/msg.writes", 348)]⟩), (213, ⟨ah, 0, [3, 9, 9, 39, 9, 9, 3], 112, true, false, false, [("downspout/msg.apply", 350), ("downspout/msg.bare", 351), ("downspout/msg.reads", 352), ("downspout/msg.valid", 353), ("downspout/msg.writes", 355)]⟩), (214, ⟨ah, 0, [3, 9, 9, 39, 9, 9, 3], 112, true, false, false, [("downspout/msg.apply", 356), ("downspout/msg.bare", 361), ("downspout/msg.reads", 362), ("downspout/msg.valid", 363), ("downspout/msg.writes", 365)]⟩), (215, ⟨ah, 0, [3, 9, 9, 39, 9, 9, 3], 112, true, false, false, [("downspout/msg.apply", 366), ("downspout/msg.bare", 367), ("downspout/msg.reads", 368), ("downspout/msg.valid", 369), ("downspout/msg.writes", 371)]⟩), (216, ⟨(.list .str), 183, [], 16, false, false, false, []⟩), (218, ⟨.opq, 0, [], 8, false, true, false, []⟩), (223, ⟨.opq, 0, [], 8, false, true, false, []⟩), (224, ⟨.opq, 0, [], 8, false, true, false, []⟩), (226, ⟨.opq, 0, [], 8, false, true, false, []⟩), (227, ⟨(.pair .opq (.pair .opq (.pair .opq (.pair .opq (.pair .opq (.pair .opq (.pair .opq .unit))))))), 0, [226, 226, 226, 226, 226, 226, 226], 56, false, true, false, []⟩), (228, ⟨.opq, 0, [], 8, false, false, false, []⟩), (231, ⟨agU, 0, [9, 4, 4, 9, 4, 3], 56, true, false, false, []⟩), (241, ⟨.opq, 0, [], 8, false, false, false, []⟩), (242, ⟨.opq, 0, [], 8, false, true, false, []⟩), (243, ⟨.opq, 0, [], 8, false, true, false, []⟩), (245, ⟨bg, 0, [9, 3, 3, 9], 48, true, false, false, []⟩), (255, ⟨.opq, 0, [], 8, false, true, false, []⟩), (256, ⟨.opq, 0, [], 8, false, true, false, []⟩), (257, ⟨(.int .u64), 0, [], 8, false, false, false, []⟩), (260, ⟨.opq, 0, [], 8, false, true, false, []⟩), (264, ⟨(.list bh), 93, [], 16, false, false, false, []⟩), (265, ⟨.opq, 0, [], 8, false, false, false, []⟩), (267, ⟨(.pair .str .unit), 0, [9], 16, true, false, false, []⟩), (269, ⟨ajE, 0, [267, 245], 64, true, false, false, []⟩), (276, ⟨.opq, 0, [], 8, false, true, false, []⟩), (286, ⟨.opq, 0, [], 8, false, false, false, []⟩), (291, ⟨.opq, 0, [], 8, false, true, false, []⟩), (294, ⟨(.int .i64), 0, [], 8, false, false, false, []⟩), (301, ⟨(.int .u32), 0, [], 4, false, false, false, []⟩), (303, ⟨(.int .u64), 0, [], 8, false, false, false, []⟩), (313, ⟨.opq, 0, [], 8, false, false, false, []⟩), (315, ⟨(.int .u64), 0, [], 8, false, false, false, []⟩), (319, ⟨.opq, 0, [], 8, false, false, false, []⟩), (326, ⟨.opq, 0, [], 8, false, false, false, []⟩), (333, ⟨Qc, 0, [5, 5], 2, true, false, false, []⟩), (334, ⟨(.pair Qc (.pair Qc (.pair Qc (.pair Qc (.pair Qc (.pair Qc (.pair Qc (.pair Qc (.pair Qc (.pair Qc (.pair Qc (.pair Qc (.pair Qc (.pair Qc (.pair Qc (.pair Qc .unit)))))))))))))))), 0, [333, 333, 333, 333, 333, 333, 333, 333, 333, 333, 333, 333, 333, 333, 333, 333], 32, false, true, false, []⟩), (357, ⟨(.list (.list ag)), 64, [], 24, false, false, false, []⟩)], aon [(296, 0), (287, 0), (286, 0), (235, 0), (263, 0), (251, 0), (330, 0), (185, 0), (181, 0), (71, 0), (115, 0), (329, 0), (219, 0), (116, 0), (283, 0), (267, 0), (266, 0), (265, 0), (264, 0), (262, 0), (261, 0), (260, 0), (331, 0), (233, 0), (342, 0), (170, 0), (327, 0), (113, 0), (68, 0), (328, 0), (328, 1), (327, 0), (327, 2), (118, 0)]⟩
noncomputable instance apg : Env := ⟨fun Y => bif Nat.beq Y 1002700 then some (ak9 Tryz.f27 0) else bif Nat.beq Y 1013600 then some (ak9 Tryz.f136 0) else bif Nat.beq Y 1016800 then some (ak9 Tryz.f168 0) else bif Nat.beq Y 1012800 then some (ak9 Tryz.f128 0) else none, fun g => bif Nat.beq g 0 then [none, some 374, some 376, some 377, some 378, some 379, some 380] else []⟩
theorem lC : TabOK Tryz.prog Acx := akI (by kernel_rfl)
theorem ee : Tryz.prog.follows .mixedOrders = true := by kernel_rfl
def AF0 (l : List Ent) : Fx := ac0 Acx (dp l) (fun k st => .fail) 0
abbrev AX (E : Ent) : Prop := ai9 Tryz.prog E
theorem Afk {F : Fx} {f : Nat} {S Z : Shape} {g : S.ty.den -> Option Z.ty.den} {fn : Func} {m : List (Nat × Code)} (hG : aC Tryz.prog F.Γ) (hf : Tryz.prog.funcs[f]? = some fn) (hin : qf Tryz.prog F fn.ntmps m) (hc : F.cx = Acx := by kernel_rfl) (hb : fn.body = some (aG fn) := by kernel_rfl) (hok : acs fn S Z = true := by kernel_rfl) (hm2 : aS (aG fn) 0 = m := by kernel_rfl) (hrf : hasRf (aG fn) = false := by kernel_rfl) (hmF : F.m = S.objs.length := by kernel_rfl) (hg : ∀ s, (aeB F fn S Z s).val = g s := by intro s; kernel_rfl) : EntOK Tryz.prog ⟨f, S, Z, g⟩ :=
  tu (F := F) (hc ▸ lC) hG ee hf hb hok hm2 hin (bM _ hrf) hmF hg
theorem Afs {F : Fx} {f : Nat} {S Z : Shape} {g : S.ty.den -> Option Z.ty.den} {fn : Func} {m : List (Nat × Code)} (hG : aC Tryz.prog F.Γ) (hf : Tryz.prog.funcs[f]? = some fn) (hin : qf Tryz.prog F fn.ntmps m) (hc : F.cx = Acx := by kernel_rfl) (hb : fn.body = some (aG fn) := by kernel_rfl) (hok : acs fn S Z = true := by kernel_rfl) (hm2 : aS (aG fn) 0 = m := by kernel_rfl) (hrf : hasRf (aG fn) = false := by kernel_rfl) (hmF : F.m = S.objs.length := by kernel_rfl) (hx : jm f = false := by kernel_rfl) (hg : ∀ s, (aeB F fn S Z s).val = g s := by intro s; kernel_rfl) : ai9 Tryz.prog ⟨f, S, Z, g⟩ :=
  (Afk hG hf hin hc hb hok hm2 hrf hmF hg).x hx
theorem Als {F : Fx} {nt : Nat} {L : Lp} {c : Code} {k : Nat} {b : L.S.ty.den -> Option (L.S.ty.den ⊕ L.Out)} {m : List (Nat × Code)} (hG : aC Tryz.prog F.Γ) (hin : qf Tryz.prog F nt m) (hc : F.cx = Acx := by kernel_rfl) (hΛ : F.Λ k = L.go (fun s => aR b s) F.m := by kernel_rfl) (hm2 : aS c k = m := by kernel_rfl) (hc2 : dn nt c = true := by kernel_rfl) (hrf : hasRf c = false := by kernel_rfl) (hb : ∀ s, (L.body F c k s).val = b s := by intro s; kernel_rfl) : jY Tryz.prog F nt k c :=
  tw (F := F) (f := fun s => aR b s) (hc ▸ lC) hG ee (fun _ => rfl) hΛ hm2 hin hc2 (bM _ hrf) hb
theorem Af0 {l : List Ent} {f : Nat} {S Z : Shape} {g : S.ty.den -> Option Z.ty.den} {fn : Func} (hf : Tryz.prog.funcs[f]? = some fn) (hl : ajR Tryz.prog l) (hb : fn.body = some (aG fn) := by kernel_rfl) (hok : acs fn S Z = true := by kernel_rfl) (hm2 : aS (aG fn) 0 = [] := by kernel_rfl) (hrf : hasRf (aG fn) = false := by kernel_rfl) (hmF : 0 = S.objs.length := by kernel_rfl) (hx : jm f = false := by kernel_rfl) (hg : ∀ s, (aeB (AF0 l) fn S Z s).val = g s := by intro s; kernel_rfl) : ai9 Tryz.prog ⟨f, S, Z, g⟩ :=
  Afs (F := AF0 l) (m := []) (al hl) hf trivial rfl hb hok hm2 hrf hmF hx hg
abbrev LA (F : Fx) (fn : Func) (k i : Nat) : Prop := jY Tryz.prog F fn.ntmps k (oD (aG fn) i)
def lp (fn : Func) (ks : List Nat) : List (Nat × Code) := ks.zipIdx.map fun q => (q.1, oD (aG fn) q.2)
def aoY : List (Nat × (St -> DT (Ex × St))) -> Nat -> St -> DT (Ex × St)
  | [], _, _ => .fail
  | q :: l, k, st => bif Nat.beq k q.1 then q.2 st else aoY l k st
def AFl (l : List Ent) (g : List (Nat × (St -> DT (Ex × St)))) (m : Nat) : Fx := ac0 Acx (dp l) (aoY g) m
def Lp1 (S : Shape) (k : Nat) (X : Shape) : Lp := ⟨S, .exit k, X, .exit (80000000 + k), ⟨[], []⟩⟩
def sj : Ent := ⟨162, Qm, Qd, kT⟩
theorem zB : AX sj := Af0 (l := []) Tryz.func162 trivial
def lL : Ent := ⟨120, Qw, Qd, gC⟩
theorem qO : AX lL := Af0 (l := []) Tryz.func120 trivial
def yP : Ent := ⟨163, ⟨[], []⟩, Qw, uP⟩
theorem ag9 : AX yP := Af0 (l := []) Tryz.func163 trivial
def sk : Ent := ⟨121, QU, Qw, jr⟩
theorem zC : AX sk := Af0 (l := [sj, lL, yP]) Tryz.func121 ⟨zB, qO, ag9, trivial⟩
def te : Lp := Lp1 ⟨[(1, .dat (.list .str)), (2, .ptr 0 af 0 []), (5, .own af 1), (6, DS), (7, DI)], QB⟩ 0 ⟨[(2, .ptr 0 af 0 []), (5, .own af 1), (6, DS)], QB⟩
def wp : Ent := ⟨119, ⟨[(0, .dat af), (1, .dat (.list .str))], []⟩, Qi, l7⟩
def pW : Fx := AFl [sk] [(0, te.go qP 0)] 0
theorem x5 : aC Tryz.prog (pW).Γ := al ⟨zC, trivial⟩
theorem adB : LA pW Tryz.f119 0 0 := Als (L := te) (b := js) (m := []) x5 trivial
theorem afv : AX wp := Afs (F := pW) (fn := Tryz.f119) (m := lp Tryz.f119 [0]) x5 Tryz.func119 ⟨adB, trivial⟩
def lM : Ent := ⟨77, ⟨[(0, .dat az), (1, .dat af)], []⟩, Qi, gD⟩
theorem qX : AX lM := Af0 (l := [wp]) Tryz.func77 ⟨afv, trivial⟩
def ud : Ent := ⟨96, ⟨[(0, .dat af), (1, DS)], []⟩, Qd, tN⟩
theorem ab1 : AX ud := Af0 (l := []) Tryz.func96 trivial
def tg : Lp := Lp1 ⟨[(0, .dat (.list ag)), (3, .ptr 0 af 0 []), (5, .own ag 1), (6, DI)], [.box 39 af (.dat af), .arr 58 ag false]⟩ 0 ⟨[(5, .own ag 0)], QC⟩
def pN : Ent := ⟨37, QD, Qe, oc⟩
def pY : Fx := AFl [ud] [(0, tg.go qS 0)] 0
theorem x7 : aC Tryz.prog (pY).Γ := al ⟨ab1, trivial⟩
theorem adE : LA pY Tryz.f37 0 0 := Als (L := tg) (b := ju) (m := []) x7 trivial
theorem x8 : AX pN := Afs (F := pY) (fn := Tryz.f37) (m := lp Tryz.f37 [0]) x7 Tryz.func37 ⟨adE, trivial⟩
def n8 : Ent := ⟨118, Qu, Qd, nl⟩
theorem sK : AX n8 := Af0 (l := []) Tryz.func118 trivial
def ow : Ent := ⟨146, ⟨[(0, .dat ak)], []⟩, ⟨[(0, .agg [(.own aB 0)])], [.arr 87 aB false]⟩, mz⟩
theorem vX : AX ow := Af0 (l := []) Tryz.func146 trivial
def wF : Lp := ⟨⟨[(2, .ptr 0 ak 0 []), (3, .ptr 1 az 0 []), (4, .ptr 2 aN 0 []), (5, DI)], Qr⟩, .ret, ⟨[(4, .ptr 0 aN 0 [])], [.box 149 aN (.agg [(.dat ak), DI, DI])]⟩, (.exit 0), ⟨[(2, .ptr 0 ak 0 []), (3, .ptr 1 az 0 []), (4, .ptr 2 aN 0 [])], Qr⟩⟩
def wG : Lp := Lp1 ⟨QZ, Qr⟩ 2 ⟨QZ, Qr⟩
def wH : Lp := Lp1 ⟨[(3, .ptr 0 az 0 []), (4, .ptr 1 aN 0 []), (6, DI), (7, .ptr 2 ak 0 []), (8, DI)], [.box 85 az (.dat az), .box 149 aN (.agg [Qg, DI, DI]), .box 32 ak (.agg [(.own aB 3)]), .arr 87 aB false]⟩ 4 ⟨[(4, .ptr 0 aN 0 []), (6, DI), (7, .ptr 1 ak 0 [])], [.box 149 aN (.agg [Qg, DI, DI]), .box 32 ak (.agg [(.own aB 2)]), .arr 87 aB false]⟩
def uf : Ent := ⟨88, ⟨[(0, .dat ak), (1, .dat az)], []⟩, ⟨[(0, .dat aN)], []⟩, nk⟩
def lR : Fx := AFl [n8, ow] [(0, wF.go uX 0), (2, wG.go uY 0), (4, wH.go uZ 0)] 0
theorem py : aC Tryz.prog (lR).Γ := al ⟨sK, vX, trivial⟩
theorem agK : LA lR Tryz.f88 0 0 := Als (L := wF) (b := mt) (m := []) py trivial
theorem agL : LA lR Tryz.f88 2 1 := Als (L := wG) (b := mu) (m := []) py trivial
theorem agM : LA lR Tryz.f88 4 2 := Als (L := wH) (b := mw) (m := []) py trivial
theorem ab8 : AX uf := Afs (F := lR) (fn := Tryz.f88) (m := lp Tryz.f88 [0, 2, 4]) py Tryz.func88 ⟨agK, agL, agM, trivial⟩
def yU : Ent := ⟨157, ⟨[(0, .dat aQ), (1, .dat aQ)], []⟩, QW, aay⟩
theorem agH : AX yU := Af0 (l := []) Tryz.func157 trivial
def wn : Ent := ⟨245, ⟨[(0, DS), (1, DI)], []⟩, ⟨[(0, .dat bg)], []⟩, adi⟩
theorem afq : AX wn := Af0 (l := []) Tryz.func245 trivial
def tb : Lp := Lp1 ⟨[(0, DS), (4, .own .str 0), (5, DS), (6, DI)], [.arr 9 .str false]⟩ 0 ⟨[(4, .own .str 0), (5, DS)], [.arr 9 .str false]⟩
def wm : Ent := ⟨247, Qk, ⟨[(0, .own .str 0), (1, DB)], [.arr 9 .str false]⟩, adh⟩
def pT : Fx := AFl [] [(0, tb.go xl 0)] 0
theorem xk : aC Tryz.prog (pT).Γ := al trivial
theorem ad6 : LA pT Tryz.f247 0 0 := Als (L := tb) (b := xj) (m := []) xk trivial
theorem afp : AX wm := Afs (F := pT) (fn := Tryz.f247) (m := lp Tryz.f247 [0]) xk Tryz.func247 ⟨ad6, trivial⟩
def v5 : Lp := ⟨⟨[(0, DS), (3, DI)], []⟩, .ret, QV, (.exit 0), ⟨[], []⟩⟩
def si : Ent := ⟨248, Qk, Qd, aav⟩
def sx : Fx := AFl [] [(0, v5.go zz 0)] 0
theorem zy : aC Tryz.prog (sx).Γ := al trivial
theorem afo : LA sx Tryz.f248 0 0 := Als (L := v5) (b := zx) (m := []) zy trivial
theorem zA : AX si := Afs (F := sx) (fn := Tryz.f248) (m := lp Tryz.f248 [0]) zy Tryz.func248 ⟨afo, trivial⟩
def td : Lp := ⟨⟨[(3, .own .str 0), (4, DB), (5, DI)], [.arr 9 .str false]⟩, .ret, QV, (.exit 0), QE⟩
def pM : Ent := ⟨228, Qk, Qd, nY⟩
def pV : Fx := AFl [wm, si] [(0, td.go xu 0)] 0
theorem xt : aC Tryz.prog (pV).Γ := al ⟨afp, zA, trivial⟩
theorem ad8 : LA pV Tryz.f228 0 0 := Als (L := td) (b := xr) (m := []) xt trivial
theorem xv : AX pM := Afs (F := pV) (fn := Tryz.f228) (m := lp Tryz.f228 [0]) xt Tryz.func228 ⟨ad8, trivial⟩
def v4 : Lp := Lp1 ⟨[(0, DI), (3, DS), (4, DI)], []⟩ 0 ⟨[(3, DS)], []⟩
def yO : Ent := ⟨249, Qv, Qk, afm⟩
def sw : Fx := AFl [] [(0, v4.go zw 0)] 0
theorem zu : aC Tryz.prog (sw).Γ := al trivial
theorem afn : LA sw Tryz.f249 0 0 := Als (L := v4) (b := zt) (m := []) zu trivial
theorem ag8 : AX yO := Afs (F := sw) (fn := Tryz.f249) (m := lp Tryz.f249 [0]) zu Tryz.func249 ⟨afn, trivial⟩
def rv : Lp := Lp1 ⟨[(0, DS), (3, DI), (4, DI)], []⟩ 0 ⟨[(0, DS), (3, DI)], []⟩
def ou : Ent := ⟨229, Qk, Qd, po⟩
def o8 : Fx := AFl [yO] [(0, rv.go vO 0)] 0
theorem vN : aC Tryz.prog (o8).Γ := al ⟨ag8, trivial⟩
theorem ac3 : LA o8 Tryz.f229 0 0 := Als (L := rv) (b := vM) (m := []) vN trivial
theorem vP : AX ou := Afs (F := o8) (fn := Tryz.f229) (m := lp Tryz.f229 [0]) vN Tryz.func229 ⟨ac3, trivial⟩
def bH : Lp := ⟨⟨[(1, .ptr 0 bg 0 []), (32, DB)], [.box 245 bg (.dat bg)]⟩, .nrm, QK, .ret, QV⟩
def ck : Lp := ⟨QK, .ret, QV, (.exit 90000010), ⟨[], []⟩⟩
def cE : Lp := ⟨QK, .ret, QV, (.exit 90000003), ⟨[], []⟩⟩
def fH : Ent := ⟨259, ⟨[(0, .dat bg)], []⟩, Qd, adj⟩
def bX : Fx := AF0 [si, pM, ou]
def dW : agl := [(100002, bH.go aO 0), (10, ck.go gf 0), (3, cE.go bu 0)]
theorem uN (s : bH.S.ty.den) : @Eq (Option bH.Out) ((evK bX dW (iY (aG Tryz.f259) 100002) 0 (bH.S.enc s)).bind fun (e, st) => bH.out (bX).m e st).val (aO s) := by kernel_rfl
theorem aaw (s : ck.S.ty.den) : @Eq (Option ck.Out) ((evK bX dW (iY (aG Tryz.f259) 10) 0 (ck.S.enc s)).bind fun (e, st) => ck.out (bX).m e st).val (gf s) := by kernel_rfl
theorem abx (s : cE.S.ty.den) : @Eq (Option cE.Out) ((evK bX dW (iY (aG Tryz.f259) 3) 0 (cE.S.enc s)).bind fun (e, st) => cE.out (bX).m e st).val (bu s) := by kernel_rfl
theorem afr (s : (fH).S.ty.den) : (aiQ bX dW Tryz.f259 (fH).S (fH).Z s).val = (fH).g s := by kernel_rfl
theorem me : aC Tryz.prog (bX).Γ := al ⟨zA, xv, vP, trivial⟩
theorem uO : wK Tryz.prog bX Tryz.f259.ntmps (bH.go aO 0) (iY (aG Tryz.f259) 100002) :=
  pB lC me ee (L := bH) (k := 0) (f := aO) (C := dW) (l := []) (m := []) (by kernel_rfl) trivial (by kernel_rfl) trivial (by kernel_rfl) (bM _ (by kernel_rfl)) uN
theorem aax : wK Tryz.prog bX Tryz.f259.ntmps (ck.go gf 0) (iY (aG Tryz.f259) 10) :=
  pB lC me ee (L := ck) (k := 0) (f := gf) (C := dW) (l := []) (m := []) (by kernel_rfl) trivial (by kernel_rfl) trivial (by kernel_rfl) (bM _ (by kernel_rfl)) aaw
theorem aby : wK Tryz.prog bX Tryz.f259.ntmps (cE.go bu 0) (iY (aG Tryz.f259) 3) :=
  pB lC me ee (L := cE) (k := 0) (f := bu) (C := dW) (l := []) (m := [(ck.go gf 0, iY (aG Tryz.f259) 10)]) (by kernel_rfl) trivial (by kernel_rfl) ⟨aax, trivial⟩ (by kernel_rfl) (bM _ (by kernel_rfl)) abx
theorem afs : EntOK Tryz.prog fH :=
  aeG (C := dW) (F := bX) lC me ee (fn := Tryz.f259) (l := []) (m := [(bH.go aO 0, iY (aG Tryz.f259) 100002), (cE.go bu 0, iY (aG Tryz.f259) 3)]) Tryz.func259 (by kernel_rfl) (by kernel_rfl) (by kernel_rfl) trivial (by kernel_rfl) ⟨uO, aby, trivial⟩ (bM _ (by kernel_rfl)) (by kernel_rfl) afr
theorem afu : AX fH := (afs).x (by kernel_rfl)
def aaE : Ent := ⟨246, ⟨[(0, .dat bg)], []⟩, ⟨[(0, DS), (1, DI)], []⟩, ahq⟩
theorem aij : AX aaE := Af0 (l := [fH]) Tryz.func246 ⟨afu, trivial⟩
def tc : Lp := ⟨⟨[(0, DS), (2, .ptr 0 bg 0 []), (4, DI)], [.box 245 bg (.agg [DS, DI, DI, DS])]⟩, .ret, ⟨[(2, .ptr 0 bg 0 []), (3, DI)], [.box 245 bg (.dat bg)]⟩, (.exit 0), ⟨[(2, .ptr 0 bg 0 [])], [.box 245 bg (.agg [DS, DI, DI, DS])]⟩⟩
def pL : Ent := ⟨227, Qk, ⟨[(0, .dat bg), (1, DI)], []⟩, jq⟩
def pU : Fx := AFl [wn, aaE] [(0, tc.go xp 0)] 0
theorem xn : aC Tryz.prog (pU).Γ := al ⟨afq, aij, trivial⟩
theorem ad7 : LA pU Tryz.f227 0 0 := Als (L := tc) (b := xm) (m := []) xn trivial
theorem xq : AX pL := Afs (F := pU) (fn := Tryz.f227) (m := lp Tryz.f227 [0]) xn Tryz.func227 ⟨ad7, trivial⟩
def sS : Ent := ⟨199, Qk, Qd, kv⟩
theorem ac5 : AX sS := Af0 (l := [pL]) Tryz.func199 ⟨xq, trivial⟩
def vz : Ent := ⟨200, ⟨[(0, .dat bh), (1, DI)], []⟩, QH, jP⟩
theorem adH : AX vz := Af0 (l := []) Tryz.func200 trivial
def wy : Ent := ⟨201, ⟨[(0, .dat bh), (1, DI)], []⟩, QH, od⟩
theorem af5 : AX wy := Af0 (l := []) Tryz.func201 trivial
def wv : Ent := ⟨202, Qm, Qd, ref10_Alike⟩
theorem af3 : AX wv := Af0 (l := [pM, ou]) Tryz.func202 ⟨xv, vP, trivial⟩
def vw : Ent := ⟨158, ⟨[(0, .dat aQ), (1, .dat ah)], []⟩, QW, px⟩
theorem adG : AX vw := Af0 (l := [sS, vz, wy, wv]) Tryz.func158 ⟨ac5, adH, af5, af3, trivial⟩
def vv : Ent := ⟨198, ⟨[(0, .dat ag)], []⟩, QH, pu⟩
theorem adC : AX vv := Af0 (l := [pL]) Tryz.func198 ⟨xq, trivial⟩
def tf : Lp := Lp1 ⟨[(0, .dat (.list ag)), (2, .ptr 0 bh 0 []), (3, .ptr 1 bh 0 []), (4, DI)], [.box 204 bh QM, .box 204 bh QM]⟩ 0 ⟨[(2, .ptr 0 bh 0 []), (3, .ptr 1 bh 0 [])], [.box 204 bh QM, .box 204 bh QM]⟩
def wq : Ent := ⟨156, Q0, QH, rR⟩
def pX : Fx := AFl [vv] [(0, tf.go qQ 0)] 0
theorem x6 : aC Tryz.prog (pX).Γ := al ⟨adC, trivial⟩
theorem adD : LA pX Tryz.f156 0 0 := Als (L := tf) (b := jt) (m := []) x6 trivial
theorem afw : AX wq := Afs (F := pX) (fn := Tryz.f156) (m := lp Tryz.f156 [0]) x6 Tryz.func156 ⟨adD, trivial⟩
def wx : Ent := ⟨155, QH, QW, xA⟩
theorem af4 : AX wx := Af0 (l := []) Tryz.func155 trivial
def wD : Lp := Lp1 ⟨[(1, .ptr 0 az 0 []), (2, .ptr 1 aQ 0 []), (3, .ptr 2 aQ 0 []), (4, DI)], Qx⟩ 0 ⟨[(1, .ptr 0 az 0 []), (2, .ptr 1 aQ 0 []), (3, .ptr 2 aQ 0 [])], Qx⟩
def wE : Lp := Lp1 ⟨[(1, .ptr 0 az 0 []), (2, .ptr 1 aQ 0 []), (3, .ptr 2 aQ 0 []), (5, DI)], Qx⟩ 2 ⟨[(2, .ptr 0 aQ 0 []), (3, .ptr 1 aQ 0 [])], [.box 95 aQ (.agg [QM, QM]), .box 95 aQ (.dat aQ)]⟩
def ue : Ent := ⟨105, ⟨[(0, .dat az)], []⟩, QW, iS⟩
def pd : Fx := AFl [yU, vw, wq, wx] [(0, wD.go uU 0), (2, wE.go uV 0)] 0
theorem uT : aC Tryz.prog (pd).Γ := al ⟨agH, adG, afw, af4, trivial⟩
theorem agI : LA pd Tryz.f105 0 0 := Als (L := wD) (b := mq) (m := []) uT trivial
theorem agJ : LA pd Tryz.f105 2 1 := Als (L := wE) (b := mr) (m := []) uT trivial
theorem ab7 : AX ue := Afs (F := pd) (fn := Tryz.f105) (m := lp Tryz.f105 [0, 2]) uT Tryz.func105 ⟨agI, agJ, trivial⟩
def sT : Ent := ⟨118, ⟨[(0, .agg [(.own aB 0)]), (1, DI)], [.arr 87 aB false]⟩, ⟨[(0, DB)], [.arr 87 aB false]⟩, nJ⟩
def abT : Fx := AFl [] [] 1
theorem ac6 : AX sT := Afs (F := abT) (fn := Tryz.f118) (m := []) (al trivial) Tryz.func118 trivial
def v9 : Lp := Lp1 ⟨[(4, .ptr 0 ak 0 []), (6, .ptr 1 ak 0 []), (7, .dat (.list (.int .i64)))], Qp⟩ 0 ⟨[(4, .ptr 0 ak 0 []), (6, .ptr 1 ak 0 [])], Qp⟩
def so : Ent := ⟨89, Qu, Qu, qY⟩
def s7 : Fx := AFl [n8, ow, sT] [(0, v9.go sJ 0)] 0
theorem zI : aC Tryz.prog (s7).Γ := al ⟨sK, vX, ac6, trivial⟩
theorem af6 : LA s7 Tryz.f89 0 0 := Als (L := v9) (b := kw) (m := []) zI trivial
theorem zJ : AX so := Afs (F := s7) (fn := Tryz.f89) (m := lp Tryz.f89 [0]) zI Tryz.func89 ⟨af6, trivial⟩
def zc : Lp := Lp1 ⟨[(0, .dat (.list ag)), (6, .ptr 0 aD 0 []), (7, .ptr 1 az 0 []), (8, .own af 2), (9, .ptr 3 ak 0 []), (10, DI)], [.box 36 aD QI, .box 85 az QJ, .arr 39 af false, .box 32 ak (.dat ak), .arr 3 (.int .i64) false, .arr 95 aQ false]⟩ 0 ⟨[(6, .ptr 0 aD 0 []), (7, .ptr 1 az 0 []), (9, .ptr 2 ak 0 [])], [.box 36 aD QI, .box 85 az (.agg [(.dat (.list ag)), (.dat (.list .str)), (.own (.int .i64) 3), (.own aQ 4), (.dat (.list ah))]), .box 32 ak (.dat ak), .arr 3 (.int .i64) false, .arr 95 aQ false]⟩
def zd : Lp := Lp1 ⟨[(6, .ptr 0 aD 0 []), (7, .ptr 1 az 0 []), (9, .ptr 2 ak 0 []), (13, .ptr 3 aN 0 []), (14, DI)], [.box 36 aD QI, .box 85 az QJ, .box 32 ak (.dat ak), .box 149 aN (.dat aN), .arr 3 (.int .i64) true, .arr 95 aQ true]⟩ 2 ⟨[(6, .ptr 0 aD 0 []), (9, .ptr 1 ak 0 []), (13, .ptr 2 aN 0 [])], [.box 36 aD QI, .box 32 ak (.dat ak), .box 149 aN (.dat aN)]⟩
def ry : Shape := ⟨[(0, .dat (.list ag)), (1, .dat (.list .str)), (2, .dat (.list ah))], []⟩
def rA : Shape := QX
def ai5 : Ent := ⟨46, ry, rA, af7⟩
def rt : Fx := AFl [lM, pN, uf, ue, so] [(0, zc.go adn 0), (2, zd.go ado 0)] 0
theorem xB : aC Tryz.prog (rt).Γ := al ⟨qX, x8, ab8, ab7, zJ, trivial⟩
theorem ain : LA rt Tryz.f46 0 0 := Als (L := zc) (b := adl) (m := []) xB trivial
theorem aio : LA rt Tryz.f46 2 1 := Als (L := zd) (b := adm) (m := []) xB trivial
theorem ajz : EntOK Tryz.prog ai5 := Afk (F := rt) (fn := Tryz.f46) (m := lp Tryz.f46 [0, 2]) xB Tryz.func46 ⟨ain, aio, trivial⟩
def fu : Shape := ⟨[(0, DI), (1, .dat af), (2, .dat (.list ah)), (3, .ptr 0 aD 0 []), (4, .ptr 1 (.int .i64) 0 []), (5, .ptr 2 .opq 0 [])], Qj⟩
def fv : Shape := ⟨[(0, DI)], Qj⟩
def iy (cost_WeightC1_r : (Int × ac × (List ae) × am × Int × Unit) -> Option (Int × am × Int × Unit)) : Ent := ⟨65, fu, fv, cost_WeightC1_r⟩
def oZ : Ent := ⟨98, Qu, Qd, lz⟩
theorem uL : AX oZ := Af0 (l := []) Tryz.func98 trivial
def lh : Ent := ⟨59, Qu, ⟨[(0, .dat az), (1, DI)], []⟩, eV⟩
theorem rP : AX lh := Af0 (l := [oZ]) Tryz.func59 ⟨uL, trivial⟩

end D
open Go Go.X Go.Proofs D
namespace D
def gU : Ent := ⟨113, ⟨[(0, .nils 41 ah), (1, DI)], []⟩, Qz, dd⟩
theorem nv : AX gU := Af0 (l := []) Tryz.func113 trivial
def fL : Lp := Lp1 ⟨[(0, .dat (.list (.list ah))), (3, DI), (9, .dat (.list (.list ah))), (10, DI), (11, DI)], []⟩ 0 ⟨[(0, .dat (.list (.list ah))), (3, DI)], []⟩
def fM : Lp := Lp1 ⟨[(6, .own ah 0), (25, .dat (.list (.list ah))), (26, DI), (27, DI)], Q1⟩ 2 ⟨[(6, .own ah 0)], Q1⟩
def gj : Ent := ⟨66, ⟨[(0, .dat (.list (.list ah)))], []⟩, Qz, cI⟩
def bZ : Fx := AFl [gU] [(0, fL.go dy 0), (2, fM.go dz 0)] 0
theorem dw : aC Tryz.prog (bZ).Γ := al ⟨nv, trivial⟩
theorem lH : LA bZ Tryz.f66 0 0 := Als (L := fL) (b := aL) (m := []) dw trivial
theorem lI : LA bZ Tryz.f66 2 1 := Als (L := fM) (b := aM) (m := []) dw trivial
theorem mF : AX gj := Afs (F := bZ) (fn := Tryz.f66) (m := lp Tryz.f66 [0, 2]) dw Tryz.func66 ⟨lH, lI, trivial⟩
def mS : Ent := ⟨230, Qk, Qd, fN⟩
theorem vZ : AX mS := Af0 (l := []) Tryz.func230 trivial
def lg : Ent := ⟨205, Qm, Qv, gm⟩
theorem tq : AX lg := Af0 (l := [mS]) Tryz.func205 ⟨vZ, trivial⟩
def oQ : Ent := ⟨161, Qm, Qv, jV⟩
theorem yI : AX oQ := Af0 (l := [lg]) Tryz.func161 ⟨tq, trivial⟩
def eB : Lp := Lp1 ⟨[(0, .dat (.list .str)), (1, .fn 161 [] []), (5, DS), (6, DI)], []⟩ 0 ⟨[(5, DS)], []⟩
def fg : Ent := ⟨160, ⟨[(0, .dat (.list .str)), (1, .fn 161 [] [])], []⟩, Qk, dA⟩
def cM : Fx := AFl [oQ] [(0, eB.go cO 0)] 0
theorem fj : aC Tryz.prog (cM).Γ := al ⟨yI, trivial⟩
theorem kj : LA cM Tryz.f160 0 0 := Als (L := eB) (b := bc) (m := []) fj trivial
theorem k9 : AX fg := Afs (F := cM) (fn := Tryz.f160) (m := lp Tryz.f160 [0]) fj Tryz.func160 ⟨kj, trivial⟩
def yX : Ent := ⟨117, ⟨[(0, .dat (.list .str))], []⟩, Qk, vh⟩
theorem agR : AX yX := Af0 (l := [fg]) Tryz.func117 ⟨k9, trivial⟩
def ko : Ent := ⟨74, Qw, Qd, fV⟩
theorem nK : AX ko := Af0 (l := []) Tryz.func74 trivial
def ui : Ent := ⟨75, QU, Qw, pG⟩
theorem abI : AX ui := Af0 (l := [yX, ko]) Tryz.func75 ⟨agR, nK, trivial⟩
def vA : Lp := Lp1 ⟨[(2, .ptr 0 af 0 []), (5, .own af 1), (6, DS), (9, .dat (.list .str)), (10, DI), (11, DI)], QB⟩ 0 ⟨[(2, .ptr 0 af 0 []), (5, .own af 1), (6, DS)], QB⟩
def yW : Ent := ⟨114, ⟨[(0, .dat af), (1, .dat (.list .str))], []⟩, Qi, span_Parts⟩
def s8 : Fx := AFl [ui] [(0, vA.go zP 0)] 0
theorem zO : aC Tryz.prog (s8).Γ := al ⟨abI, trivial⟩
theorem afJ : LA s8 Tryz.f114 0 0 := Als (L := vA) (b := zN) (m := []) zO trivial
theorem agQ : AX yW := Afs (F := s8) (fn := Tryz.f114) (m := lp Tryz.f114 [0]) zO Tryz.func114 ⟨afJ, trivial⟩
def yM : Ent := ⟨67, ⟨[(0, .dat az), (1, .dat af)], []⟩, Qi, kR⟩
theorem ag1 : AX yM := Af0 (l := [yW]) Tryz.func67 ⟨agQ, trivial⟩
def dF : Ent := ⟨69, Q2, Qz, eL⟩
def mN : Fx := ac0 Acx (dp []) (fun _ _ => .fail) 0
theorem mO : EntOK Tryz.prog dF :=
  agY (F := mN) lC (al trivial) ee (fn := Tryz.f69) Tryz.func69 (by kernel_rfl) (by kernel_rfl) (by kernel_rfl) (by kernel_rfl) (by kernel_rfl) (fun s => (decide ((List.length ([] : List ae) + List.length s.1) * 112 <= ai))) (fun s => (s.1, ())) (fun s => ([], ())) (fun s => List.length s.1) (fun s => rfl) (fun s => by kernel_rfl) (fun s => by kernel_rfl) (fun s h => congrArg (fun l => (l, ())) (List.eq_nil_of_length_eq_zero h).symm)
theorem mP : AX dF := mO.x (by kernel_rfl)
def rp : Ent := ⟨216, Qk, Qw, ol⟩
theorem xI : AX rp := Af0 (l := []) Tryz.func216 trivial
def jf : Ent := ⟨324, Qf, Qi, qA⟩
theorem rN : AX jf := Af0 (l := [rp]) Tryz.func324 ⟨xI, trivial⟩
def ja : Ent := ⟨337, Qf, Qi, qu⟩
theorem rI : AX ja := Af0 (l := [rp]) Tryz.func337 ⟨xI, trivial⟩
def i5 : Ent := ⟨348, Qf, Qi, oF⟩
theorem qx : AX i5 := Af0 (l := []) Tryz.func348 trivial
def tl : Lp := Lp1 QF 0 QF
def gV : Ent := ⟨217, Qk, Qw, span_Prefix⟩
def pZ : Fx := AFl [] [(0, tl.go xL 0)] 0
theorem xK : aC Tryz.prog (pZ).Γ := al trivial
theorem adN : LA pZ Tryz.f217 0 0 := Als (L := tl) (b := xJ) (m := []) xK trivial
theorem j7 : AX gV := Afs (F := pZ) (fn := Tryz.f217) (m := lp Tryz.f217 [0]) xK Tryz.func217 ⟨adN, trivial⟩
def i6 : Ent := ⟨355, Qf, Qi, oG⟩
theorem qz : AX i6 := Af0 (l := [gV]) Tryz.func355 ⟨j7, trivial⟩
def gQ : Ent := ⟨365, Qf, Qi, ng⟩
theorem oU : AX gQ := Af0 (l := [gV]) Tryz.func365 ⟨j7, trivial⟩
def gR : Ent := ⟨371, Qf, Qi, nh⟩
theorem oV : AX gR := Af0 (l := []) Tryz.func371 trivial
def yL : Ent := ⟨72, Qf, Qi, fQ⟩
noncomputable def agj : Fx := ac0 Acx (aoA Acx (dp [jf, ja, i5, i6, gQ, gR]) 110 Tryz.f110 (dp [jf, ja, i5, i6, gQ, gR])) (fun k st => .fail) 0
theorem agx : AX yL := Afs (F := agj) (fn := Tryz.f72) (m := []) (aaa (by kernel_rfl) (acw (F := (ac0 Acx (dp [jf, ja, i5, i6, gQ, gR]) (fun _ _ => .fail) 0)) lC (al ⟨rN, rI, qx, qz, oU, oV, trivial⟩) ee Tryz.func110 (by kernel_rfl) (by kernel_rfl) (by kernel_rfl)) (al ⟨rN, rI, qx, qz, oU, oV, trivial⟩)) Tryz.func72 trivial
def nM : Ent := ⟨73, ⟨[(0, .dat af), (1, .ptr 0 af 0 [])], Q3⟩, ⟨[(0, DB)], Q3⟩, lV⟩
def w8 : Fx := AFl [ko, ui] [] 1
theorem wP : AX nM := Afs (F := w8) (fn := Tryz.f73) (m := []) (al ⟨nK, abI, trivial⟩) Tryz.func73 trivial
def dU : Lp := ⟨⟨[(0, .own af 0), (1, .fn 73 [] [(.ptr 1 af 0 [])]), (7, DI), (8, DI)], Qs⟩, .ret, ⟨[(4, DI)], Qs⟩, (.exit 0), ⟨[], Qs⟩⟩
def ez : Ent := ⟨116, ⟨[(0, .own af 0), (1, .fn 73 [] [(.ptr 1 af 0 [])])], Qs⟩, ⟨[(0, DI)], Qs⟩, bV⟩
def cu : Fx := AFl [nM] [(0, dU.go cz 2)] 2
theorem eI : aC Tryz.prog (cu).Γ := al ⟨wP, trivial⟩
theorem j6 : LA cu Tryz.f116 0 0 := Als (L := dU) (b := bp) (m := []) eI trivial
theorem jU : AX ez := Afs (F := cu) (fn := Tryz.f116) (m := lp Tryz.f116 [0]) eI Tryz.func116 ⟨j6, trivial⟩
def dL : Ent := ⟨71, ⟨[(0, .own af 0), (1, .fn 73 [] [(.ptr 1 af 0 [])])], Qs⟩, ⟨[(0, DB)], Qs⟩, bm⟩
def iU : Fx := AFl [ez] [] 2
theorem iX : AX dL := Afs (F := iU) (fn := Tryz.f71) (m := []) (al ⟨jU, trivial⟩) Tryz.func71 trivial
def kM : Ent := ⟨70, ⟨[(0, .dat ah), (1, .ptr 0 af 0 [])], Q3⟩, ⟨[(0, DB)], Q3⟩, iI⟩
def zX : Fx := AFl [yL, dL] [] 1
theorem ql : AX kM := Afs (F := zX) (fn := Tryz.f70) (m := []) (al ⟨agx, iX, trivial⟩) Tryz.func70 trivial
def eA : Lp := ⟨⟨[(0, .own ah 0), (1, .fn 70 [] [(.ptr 1 af 0 [])]), (7, DI), (8, DI)], Qo⟩, .ret, ⟨[(4, DI)], Qo⟩, (.exit 0), ⟨[], Qo⟩⟩
def ff : Ent := ⟨115, ⟨[(0, .own ah 0), (1, .fn 70 [] [(.ptr 1 af 0 [])])], Qo⟩, ⟨[(0, DI)], Qo⟩, bn⟩
def cL : Fx := AFl [kM] [(0, eA.go cN 2)] 2
theorem fi : aC Tryz.prog (cL).Γ := al ⟨ql, trivial⟩
theorem ki : LA cL Tryz.f115 0 0 := Als (L := eA) (b := bw) (m := []) fi trivial
theorem kz : AX ff := Afs (F := cL) (fn := Tryz.f115) (m := lp Tryz.f115 [0]) fi Tryz.func115 ⟨ki, trivial⟩
def dZ : Lp := Lp1 ⟨[(0, .own ah 0), (1, .fn 70 [] [(.ptr 1 af 0 [])]), (5, DI), (6, DI)], Qo⟩ 0 ⟨[(0, .own ah 0), (5, DI)], Qo⟩
def eQ : Ent := ⟨68, ⟨[(0, .own ah 0), (1, .fn 70 [] [(.ptr 1 af 0 [])])], Qo⟩, ⟨[(0, .own ah 2)], [.gone, .box 39 af (.dat af), .arr 41 ah false]⟩, bD⟩
def cB : Fx := AFl [kM, ff] [(0, dZ.go cC 2)] 2
theorem eZ : aC Tryz.prog (cB).Γ := al ⟨ql, kz, trivial⟩
theorem jS : LA cB Tryz.f68 0 0 := Als (L := dZ) (b := aZ) (m := []) eZ trivial
theorem kh : AX eQ := Afs (F := cB) (fn := Tryz.f68) (m := lp Tryz.f68 [0]) eZ Tryz.func68 ⟨jS, trivial⟩
def dM : Lp := ⟨⟨[(4, .ptr 1 (.int .i64) 0 []), (5, .ptr 2 .opq 0 []), (10, .ptr 3 az 0 []), (12, .own ah 4), (34, .own af 5), (35, DI), (36, DI)], [.box 36 aD (.dat aD), .box 3 (.int .i64) DI, .box 127 .opq (.fn 65 [] [(.ptr 0 aD 0 []), (.ptr 1 (.int .i64) 0 []), (.ptr 2 .opq 0 [])]), .box 85 az (.dat az), .arr 41 ah true, .arr 39 af false]⟩, .ret, ⟨[(9, DI)], Qj⟩, (.exit 0), ⟨[], Qj⟩⟩
def mU : Ent := ⟨65, fu, fv, nE⟩
def gW (cost_WeightC1_r : (Int × ac × (List ae) × am × Int × Unit) -> Option (Int × am × Int × Unit)) : Fx := AFl [(iy cost_WeightC1_r), lh, gj, yM, dF, eQ] [(0, dM.go (fB cost_WeightC1_r) 3)] 3
theorem yE (cost_WeightC1_r : (Int × ac × (List ae) × am × Int × Unit) -> Option (Int × am × Int × Unit)) (s : dM.S.ty.den) : @Eq (Option (dM.S.ty.den ⊕ dM.Out)) (dM.body (gW cost_WeightC1_r) (oD (aG Tryz.f65) 0) 0 s).val (fA cost_WeightC1_r s) := by kernel_rfl
theorem acm (cost_WeightC1_r : (Int × ac × (List ae) × am × Int × Unit) -> Option (Int × am × Int × Unit)) (s : fu.ty.den) : @Eq (Option fv.ty.den) (aeB (gW cost_WeightC1_r) Tryz.f65 fu fv s).val (bI cost_WeightC1_r s) := by kernel_rfl
theorem tt (cost_WeightC1_r : (Int × ac × (List ae) × am × Int × Unit) -> Option (Int × am × Int × Unit)) (cost_WeightC1_r_ok : EntOK Tryz.prog (iy cost_WeightC1_r)) : aC Tryz.prog (gW cost_WeightC1_r).Γ := al ⟨(cost_WeightC1_r_ok.x (by kernel_rfl)), rP, mF, ag1, mP, kh, trivial⟩
end D
