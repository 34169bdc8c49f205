/- Entries, by program. -/
import Derived.Test.YtmmmpanpbphkdaaGreatDoorL
import Derived.Test.YtmmmpanpbphkdaaGreatDoorD
import Derived.Test.YtmmmpanpbphkdaaGreatDoorChecked
set_option linter.unusedVariables false
set_option maxRecDepth 100000
open Go Go.X Go.Proofs D
namespace D
abbrev DB : SK := .dat .bool
abbrev DS : SK := .dat .str
abbrev DI : SK := .dat (.int .i64)
abbrev Qb : List SO := [.arr 39 ac false]
abbrev Qc : SK := .agg [DB, DB, (.agg [DS, DS, DI]), DS, DB, DI]
abbrev Qd : Ty := .pair (.int .u8) (.pair (.int .u8) .unit)
abbrev Qe : Shape := ⟨[(0, DB)], []⟩
abbrev Qf : Shape := ⟨[(0, .dat aj)], []⟩
abbrev Qh : SK := .agg [(.agg [DI, DI]), (.agg [DI, DI])]
abbrev Qi : List SO := [.box 132 .opq (.fn 183 [] [(.ptr 1 ac 0 [])]), .box 39 ac (.dat ac)]
abbrev Qj : Shape := ⟨[(0, DS), (1, DS)], []⟩
abbrev Qm : List SO := [.loop 1012800 [(5, .ptr 2 aE 0 []), (4, .ptr 3 aE 0 [])], .box 83 (.list aj) (.dat (.list aj)), .box 190 aE Qc, .box 190 aE Qc]
abbrev Qn : Shape := ⟨[(0, DS)], []⟩
abbrev Qo : List (Nat × SK) := [(0, .own ac 0), (1, DI), (4, .fn 236 [] []), (12, DI), (13, DI)]
abbrev Qp : SK := .agg [(.dat (.list aK))]
abbrev Qq : List SO := [.loop 1016800 [(5, .ptr 2 (.list ac) 0 [])], .box 83 (.list aj) (.dat (.list aj)), .box 62 (.list ac) (.own ac 4), .gone, .arr 39 ac false]
abbrev Qr : Shape := ⟨[(0, DI)], []⟩
abbrev Qs : List SO := [.arr 58 af false, .box 62 (.list ac) (.dat (.list ac))]
abbrev Qt : List SO := [.box 39 ac (.dat ac)]
abbrev Qu : List (Nat × SK) := [(0, .own ac 0), (1, DI), (2, DI), (3, DI), (4, .fn 236 [] []), (10, DB), (11, DB)]
abbrev Qw : Shape := ⟨[(0, .ptr 0 aE 0 []), (1, .dat aj)], [.box 190 aE Qc]⟩
abbrev Qx : List (Nat × SK) := [(0, .own ac 0), (1, DI), (2, DI), (3, .fn 236 [] []), (9, DI), (10, DI)]
abbrev Qy : List (Nat × SK) := [(0, .own ac 0)]
abbrev Qz : List SO := [.box 32 ak Qp, .box 32 ak (.agg [(.own aK 2)]), .arr 87 aK false]
abbrev QA : Shape := ⟨[(4, .ptr 0 af 0 []), (5, .ptr 1 .bool 0 []), (6, .ptr 2 (.int .i64) 0 []), (7, DI), (1000000000, .dfr 129 [(.ptr 2 (.int .i64) 0 [])] [(.ptr 0 af 0 []), (.ptr 1 .bool 0 [])] aE)], [.box 58 af (.dat af), .box 4 .bool DB, .box 3 (.int .i64) DI]⟩
abbrev QB : List (Nat × SK) := [(0, .own ac 0), (1, DI), (2, DI), (3, .fn 236 [] [])]
abbrev QC : List (Nat × SK) := [(0, .own ac 0), (1, DI), (4, .fn 236 [] []), (11, DI), (12, DI)]
abbrev QD : SK := .agg [(.dat ak), DI]
abbrev Qk : Shape := ⟨[], [.loop 1013600 [(12, .ptr 5 (.list af) 0 [])], .box 141 .opq (.ptr 6 aB 0 []), .box 3 (.int .i64) DI, .box 39 ac (.dat ac), .box 62 (.list ac) (.dat (.list ac)), .box 64 (.list af) (.own af 8), .box 143 aB QD, .gone, .arr 58 af false]⟩
abbrev Ql : Shape := ⟨[], [.loop 1002700 [(7, .ptr 5 (.list af) 0 [])], .box 141 .opq (.ptr 6 aB 0 []), .box 3 (.int .i64) DI, .box 39 ac (.dat ac), .box 62 (.list ac) (.dat (.list ac)), .box 64 (.list af) (.own af 7), .box 143 aB QD, .arr 58 af false]⟩
abbrev QE : List SO := [.box 32 ak (.dat ak), .box 85 aw (.dat aw), .box 149 bC (.agg [Qp, DI, DI])]
abbrev QF : List SO := [.arr 39 ac false, .box 39 ac (.dat ac)]
abbrev QG : List SO := [.box 26 aY (.dat aY), .box 34 ft (.agg [DI, DI, DI]), .box 36 aN (.dat aN)]
abbrev QH : Shape := ⟨[(0, .dat aj), (1, .dat (.list af))], []⟩
abbrev QI : List SO := [.arr 39 ac true, .box 39 ac (.dat ac)]
abbrev QJ : Shape := ⟨[(0, .dat ac)], []⟩
abbrev QK : Shape := ⟨[(0, .dat ak), (1, DI)], []⟩
abbrev QL : Shape := ⟨[(0, DS), (1, .dat (.int .u8))], []⟩
abbrev QM : List SO := [.arr 39 ac false, .box 3 (.int .i64) DI]
abbrev QN : SK := .agg [DS, DI, DI, DS]
abbrev QO : Shape := ⟨[(0, .dat (.list af))], []⟩
abbrev QP : Shape := ⟨[(0, .dat (.list ac))], []⟩
abbrev QQ : List (Nat × SK) := [(0, .own ac 0), (1, DI), (2, DI), (3, DI), (4, .fn 236 [] [])]
abbrev QR : List SO := [.box 204 bc (.agg [DI, DI]), .box 204 bc (.agg [DI, DI])]
abbrev QS : Shape := ⟨[(0, DB)], [.box 190 aE Qc]⟩
abbrev QT : List SO := [.box 58 af (.dat af)]
abbrev QU : List SO := [.arr 58 af false]
abbrev Qg : Shape := ⟨[(0, .own af 0)], QU⟩
abbrev QV : List SO := [.box 39 ac (.dat ac), .arr 39 ac false]
abbrev QW : Shape := ⟨[(0, .dat ac), (1, .dat ac)], []⟩
abbrev QX : Shape := ⟨[(0, .dat (.list af)), (1, .dat ac)], []⟩
abbrev QY : Shape := ⟨[(0, .dat bc)], []⟩
abbrev QZ : List SO := [.box 85 aw (.dat aw), .box 39 ac (.dat ac)]
abbrev Q0 : Shape := ⟨[(0, .dat (.list ac)), (5, .own ac 0), (12, .own ac 1), (13, DI), (14, DI)], [.arr 39 ac false, .arr 39 ac false]⟩
abbrev Q1 : Shape := ⟨[(2, DB)], []⟩
abbrev Q2 : Shape := ⟨[(0, DS), (2, .ptr 0 ac 0 []), (3, .own (.int .u8) 1)], [.box 39 ac (.agg [DS, DS]), .arr 5 (.int .u8) false]⟩
abbrev Q3 : Shape := ⟨[(6, DB)], []⟩
abbrev Q4 : List SO := [.box 85 aw (.dat aw), .box 95 aG Qh, .box 95 aG (.dat aG)]
abbrev Q5 : List SO := [.box 32 ak (.dat ak), .box 39 ac (.dat ac), .box 26 aY (.dat aY), .box 114 aB (.agg [Qp, DI]), .arr 9 .str false]
abbrev Q6 : List SO := [.box 245 aF (.dat aF), .box 245 aF QN]
abbrev Q7 : Shape := ⟨[(0, .dat aG)], []⟩
abbrev Q8 : List SO := [.box 269 qr (.agg [(.agg [DS]), QN])]
abbrev Q9 : Shape := ⟨[(2, DS), (3, DI)], []⟩
abbrev Ra : List SO := [.box 245 aF (.dat aF)]
abbrev Rb : Ty := .pair (.int .u8) Qd
abbrev Qa : Ty := .pair (.int .u8) (.pair (.int .u8) (.pair (.int .u8) Rb))
abbrev Qv : List SO := [.box 28 Qa (.dat Qa), .box 41 aj (.agg [DI, DS, DS, (.agg [DS, DS]), DS, DS, DI]), .box 39 ac (.dat ac)]
abbrev Rc : List (Nat × SK) := [(2, .dat (.int .u8)), (4, .ptr 0 aY 0 []), (7, DB), (8, .ptr 1 ft 0 []), (9, .ptr 2 aN 0 []), (11, DB)]
abbrev Rd : List (Nat × SK) := [(0, .own ac 0), (1, DI), (2, DI), (3, DI), (4, .fn 236 [] []), (10, DB), (11, DB), (12, DI), (13, DI)]
abbrev Re : Shape := ⟨[(0, .dat (.int .u8))], []⟩
abbrev Rf : List SO := [.loop 1012800 [(5, .ptr 1 aE 0 []), (4, .ptr 2 aE 0 [])], .box 190 aE Qc, .box 190 aE Qc]
abbrev Rg : Shape := ⟨[(2, .ptr 0 aj 0 [])], [.box 41 aj (.agg [DI, DS, DS, (.dat ac), DS, DS, DI])]⟩
abbrev Rh : Shape := ⟨[(2, .dat (.int .u8)), (7, DB), (14, .ptr 0 aN 0 [])], [.box 36 aN (.dat aN)]⟩
abbrev Ri : Shape := ⟨[(2, .dat (.int .u8)), (4, .ptr 0 aY 0 []), (7, DB)], [.box 26 aY (.dat aY)]⟩
abbrev Rj : List SO := [.box 85 aw (.dat aw), .box 95 aG Qh, .box 95 aG Qh, .box 242 .opq (.fn 189 [] [])]
abbrev Rk : List (Nat × SK) := [(1, .ptr 0 Qa 0 []), (2, .ptr 1 aj 0 []), (3, DS), (5, .ptr 2 ac 0 []), (6, DS), (7, DS)]
abbrev Rl : Shape := ⟨[(0, .dat (.list af)), (1, DS)], []⟩
abbrev Rm : List SO := [.box 143 aB QD, .box 85 aw (.dat aw), .box 39 ac (.dat ac), .arr 39 ac false]
abbrev Rn : Shape := ⟨[(0, DS), (2, .ptr 0 ac 0 []), (3, DI)], [.box 39 ac (.agg [DS, DS])]⟩
abbrev Ro : Shape := ⟨[(0, .dat aw), (1, .dat ac)], []⟩
abbrev Rp : List (Nat × SK) := [(0, .own ac 0), (1, DI), (2, DI), (3, DI), (4, .fn 236 [] []), (12, DI), (13, DI)]
abbrev Rq : List (Nat × SK) := [(5, .ptr 1 (.list ac) 0 [])]
abbrev Rr : Ty := .pair (.int .i16) (.pair (.int .i16) (.pair (.int .i16) .unit))
abbrev Rs : Shape := ⟨[(4, DB)], []⟩
abbrev Rt : Shape := ⟨[(0, .dat aF)], []⟩
abbrev Ru : Shape := ⟨[(0, .dat af)], []⟩
abbrev Rv : Shape := ⟨[(0, .dat aN)], []⟩
abbrev Rw : Shape := ⟨[(0, .dat (.int .u64))], []⟩
abbrev Rx : List (Nat × SK) := [(2, .ptr 0 ak 0 []), (3, .ptr 1 aw 0 []), (4, .ptr 2 bC 0 []), (6, DI)]
abbrev Ry : List SO := [.arr 41 aj false]
abbrev Rz : List SO := [.box 32 ak (.dat ak), .box 85 aw (.dat aw), .box 32 ak Qp]
abbrev RA : Shape := ⟨[(0, .dat (.list af)), (1, .dat (.list af))], []⟩
def Acx : Cx := ⟨[(1, ⟨.opq, 0, [], 8, false, true, false, []⟩), (3, ⟨(.int .i64), 0, [], 8, false, false, false, []⟩), (4, ⟨.bool, 0, [], 1, false, false, false, []⟩), (5, ⟨(.int .u8), 0, [], 1, false, false, false, []⟩), (9, ⟨.str, 0, [], 16, false, false, false, []⟩), (20, ⟨.opq, 0, [], 16, false, false, true, []⟩), (21, ⟨(.int .i32), 0, [], 4, false, false, false, []⟩), (22, ⟨(.list Rb), 168, [], 3, false, false, false, []⟩), (23, ⟨(.list Qa), 28, [], 6, false, false, false, []⟩), (24, ⟨(.pair (.list Qa) (.pair (.list Qa) (.pair (.list Qa) (.pair (.list Qa) .unit)))), 0, [23, 23, 23, 23], 96, false, true, false, []⟩), (26, ⟨aY, 0, [22, 24, 5], 128, false, false, false, []⟩), (28, ⟨Qa, 0, [5, 5, 5, 5, 5, 5], 6, false, true, false, []⟩), (30, ⟨(.list aK), 87, [], 136, false, false, false, []⟩), (32, ⟨ak, 0, [30], 24, false, false, false, []⟩), (34, ⟨ft, 0, [3, 3, 3], 24, true, false, false, []⟩), (36, ⟨aN, 0, [32, 3, 34], 56, false, false, false, []⟩), (39, ⟨ac, 0, [9, 9], 32, true, false, false, []⟩), (41, ⟨aj, 0, [3, 9, 9, 39, 9, 9, 3], 112, true, false, false, []⟩), (43, ⟨(.int .i64), 0, [], 8, false, false, false, []⟩), (53, ⟨Rb, 0, [5, 5, 5], 3, false, true, false, []⟩), (55, ⟨(.list .str), 9, [], 16, false, false, false, []⟩), (58, ⟨af, 0, [9, 9, 3], 40, true, false, false, []⟩), (60, ⟨asY, 0, [58, 4, 3, 43], 64, true, false, false, []⟩), (62, ⟨(.list ac), 39, [], 32, false, false, false, []⟩), (64, ⟨(.list af), 58, [], 40, false, false, false, []⟩), (77, ⟨Qd, 0, [5, 5], 2, false, true, false, []⟩), (81, ⟨(.list (.int .i64)), 3, [], 8, false, false, false, []⟩), (82, ⟨(.list aG), 95, [], 32, false, false, false, []⟩), (83, ⟨(.list aj), 41, [], 112, false, false, false, []⟩), (85, ⟨aw, 0, [64, 55, 81, 82, 83], 120, false, false, false, []⟩), (87, ⟨aK, 0, [4, 4, 3, 85], 136, false, false, false, []⟩), (89, ⟨(.int .i16), 0, [], 2, false, false, false, []⟩), (90, ⟨Rr, 0, [89, 89, 89], 6, false, true, false, []⟩), (93, ⟨bc, 0, [3, 3], 16, true, false, false, []⟩), (95, ⟨aG, 0, [93, 93], 32, true, false, false, []⟩), (100, ⟨.opq, 0, [], 8, false, true, false, []⟩), (108, ⟨bc, 0, [3, 3], 16, true, false, false, []⟩), (111, ⟨(.list (.list .str)), 55, [], 24, false, false, false, []⟩), (112, ⟨(.list (.list (.list .str))), 111, [], 24, false, false, false, []⟩), (114, ⟨aB, 0, [32, 3], 32, false, false, false, []⟩), (127, ⟨.opq, 0, [], 8, false, true, false, []⟩), (132, ⟨.opq, 0, [], 8, false, true, false, []⟩), (141, ⟨.opq, 0, [], 8, false, false, false, []⟩), (143, ⟨aB, 0, [32, 43], 32, false, false, false, []⟩), (144, ⟨.opq, 0, [], 8, false, true, false, []⟩), (145, ⟨.opq, 0, [], 8, false, true, false, []⟩), (149, ⟨bC, 0, [32, 3, 43], 40, false, false, false, []⟩), (156, ⟨.opq, 0, [], 8, false, true, false, []⟩), (158, ⟨.opq, 0, [], 8, false, true, false, []⟩), (159, ⟨.opq, 0, [], 8, false, true, false, []⟩), (160, ⟨.opq, 0, [], 8, false, true, false, []⟩), (164, ⟨aoq, 0, [108], 16, true, false, false, []⟩), (168, ⟨Rb, 0, [5, 5, 5], 3, false, true, false, []⟩), (169, ⟨(.list (.int .u8)), 5, [], 1, false, false, false, []⟩), (171, ⟨.opq, 0, [], 16, false, false, true, []⟩), (176, ⟨.opq, 0, [], 8, false, false, false, []⟩), (177, ⟨(.list (.list aj)), 83, [], 24, false, false, false, []⟩), (183, ⟨.str, 0, [], 16, false, false, false, []⟩), (190, ⟨aE, 0, [4, 4, 58, 9, 4, 3], 80, true, false, false, []⟩), (194, ⟨(.list .bool), 4, [], 1, false, false, false, []⟩), (195, ⟨.opq, 0, [], 8, false, true, false, []⟩), (204, ⟨bc, 0, [3, 3], 16, true, false, false, []⟩), (208, ⟨.opq, 0, [], 8, false, false, false, []⟩), (210, ⟨aj, 0, [3, 9, 9, 39, 9, 9, 3], 112, true, false, false, [("downspout/msg.apply", 319), ("downspout/msg.bare", 320), ("downspout/msg.reads", 321), ("downspout/msg.valid", 322), ("downspout/msg.writes", 324)]⟩), (211, ⟨aj, 0, [3, 9, 9, 39, 9, 9, 3], 112, true, false, false, [("downspout/msg.apply", 332), ("downspout/msg.bare", 333), ("downspout/msg.reads", 334), ("downspout/msg.valid", 335), ("downspout/msg.writes", 337)]⟩), (212, ⟨aj, 0, [3, 9, 9, 39, 9, 9, 3], 112, true, false, false, [("downspout/msg.apply", 343), ("downspout/msg.bare", 344), ("downspout/msg.reads", 345), ("downspout/msg.valid", 346), ("downspout/msg.writes", 348)]⟩), (213, ⟨aj, 0, [3, 9, 9, 39, 9, 9, 3], 112, true, false, false, [("downspout/msg.apply", 350), ("downspout/msg.bare", 351), ("downspout/msg.reads", 352), ("downspout/msg.valid", 353), ("downspout/msg.writes", 355)]⟩), (214, ⟨aj, 0, [3, 9, 9, 39, 9, 9, 3], 112, true, false, false, [("downspout/msg.apply", 356), ("downspout/msg.bare", 361), ("downspout/msg.reads", 362), ("downspout/msg.valid", 363), ("downspout/msg.writes", 365)]⟩), (215, ⟨aj, 0, [3, 9, 9, 39, 9, 9, 3], 112, true, false, false, [("downspout/msg.apply", 366), ("downspout/msg.bare", 367), ("downspout/msg.reads", 368), ("downspout/msg.valid", 369), ("downspout/msg.writes", 371)]⟩), (216, ⟨(.list .str), 183, [], 16, false, false, false, []⟩), (218, ⟨.opq, 0, [], 8, false, true, false, []⟩), (223, ⟨.opq, 0, [], 8, false, true, false, []⟩), (224, ⟨.opq, 0, [], 8, false, true, false, []⟩), (226, ⟨.opq, 0, [], 8, false, true, false, []⟩), (227, ⟨(.pair .opq (.pair .opq (.pair .opq (.pair .opq (.pair .opq (.pair .opq (.pair .opq .unit))))))), 0, [226, 226, 226, 226, 226, 226, 226], 56, false, true, false, []⟩), (228, ⟨.opq, 0, [], 8, false, false, false, []⟩), (231, ⟨apx, 0, [9, 4, 4, 9, 4, 3], 56, true, false, false, []⟩), (241, ⟨.opq, 0, [], 8, false, false, false, []⟩), (242, ⟨.opq, 0, [], 8, false, true, false, []⟩), (243, ⟨.opq, 0, [], 8, false, true, false, []⟩), (245, ⟨aF, 0, [9, 3, 3, 9], 48, true, false, false, []⟩), (255, ⟨.opq, 0, [], 8, false, true, false, []⟩), (256, ⟨.opq, 0, [], 8, false, true, false, []⟩), (257, ⟨(.int .u64), 0, [], 8, false, false, false, []⟩), (260, ⟨.opq, 0, [], 8, false, true, false, []⟩), (264, ⟨(.list bc), 93, [], 16, false, false, false, []⟩), (265, ⟨.opq, 0, [], 8, false, false, false, []⟩), (267, ⟨(.pair .str .unit), 0, [9], 16, true, false, false, []⟩), (269, ⟨qr, 0, [267, 245], 64, true, false, false, []⟩), (276, ⟨.opq, 0, [], 8, false, true, false, []⟩), (286, ⟨.opq, 0, [], 8, false, false, false, []⟩), (291, ⟨.opq, 0, [], 8, false, true, false, []⟩), (294, ⟨(.int .i64), 0, [], 8, false, false, false, []⟩), (301, ⟨(.int .u32), 0, [], 4, false, false, false, []⟩), (303, ⟨(.int .u64), 0, [], 8, false, false, false, []⟩), (313, ⟨.opq, 0, [], 8, false, false, false, []⟩), (315, ⟨(.int .u64), 0, [], 8, false, false, false, []⟩), (319, ⟨.opq, 0, [], 8, false, false, false, []⟩), (326, ⟨.opq, 0, [], 8, false, false, false, []⟩), (333, ⟨Qd, 0, [5, 5], 2, true, false, false, []⟩), (334, ⟨(.pair Qd (.pair Qd (.pair Qd (.pair Qd (.pair Qd (.pair Qd (.pair Qd (.pair Qd (.pair Qd (.pair Qd (.pair Qd (.pair Qd (.pair Qd (.pair Qd (.pair Qd (.pair Qd .unit)))))))))))))))), 0, [333, 333, 333, 333, 333, 333, 333, 333, 333, 333, 333, 333, 333, 333, 333, 333], 32, false, true, false, []⟩), (357, ⟨(.list (.list af)), 64, [], 24, false, false, false, []⟩)], avB [(296, 0), (287, 0), (286, 0), (235, 0), (263, 0), (251, 0), (330, 0), (185, 0), (181, 0), (71, 0), (115, 0), (329, 0), (219, 0), (116, 0), (283, 0), (267, 0), (266, 0), (265, 0), (264, 0), (262, 0), (261, 0), (260, 0), (331, 0), (233, 0), (342, 0), (170, 0), (327, 0), (113, 0), (68, 0), (328, 0), (328, 1), (327, 0), (327, 2), (118, 0)]⟩
noncomputable instance aww : Env := ⟨fun Y => bif Nat.beq Y 1002700 then some (ac7 Tryz.f27 0) else bif Nat.beq Y 1013600 then some (ac7 Tryz.f136 0) else bif Nat.beq Y 1016800 then some (ac7 Tryz.f168 0) else bif Nat.beq Y 1012800 then some (ac7 Tryz.f128 0) else none, fun g => bif Nat.beq g 0 then [none, some 374, some 376, some 377, some 378, some 379, some 380] else []⟩
theorem fe : TabOK Tryz.prog Acx := asX (by kernel_rfl)
theorem bz : Tryz.prog.follows .mixedOrders = true := by kernel_rfl
def AF0 (l : List Ent) : Fx := ail Acx (dm l) (fun k st => .fail) 0
abbrev AX (E : Ent) : Prop := apT Tryz.prog E
theorem Afk {F : Fx} {f : Nat} {S Z : Shape} {g : S.ty.den -> Option Z.ty.den} {fn : Func} {m : List (Nat × Code)} (hG : aC Tryz.prog F.Γ) (hf : Tryz.prog.funcs[f]? = some fn) (hin : wn Tryz.prog F fn.ntmps m) (hc : F.cx = Acx := by kernel_rfl) (hb : fn.body = some (au fn) := by kernel_rfl) (hok : akw fn S Z = true := by kernel_rfl) (hm2 : bm (au fn) 0 = m := by kernel_rfl) (hrf : hasRf (au fn) = false := by kernel_rfl) (hmF : F.m = S.objs.length := by kernel_rfl) (hg : ∀ s, (ajd F fn S Z s).val = g s := by intro s; kernel_rfl) : EntOK Tryz.prog ⟨f, S, Z, g⟩ :=
  sO (F := F) (hc ▸ fe) hG bz hf hb hok hm2 hin (bd _ hrf) hmF hg
theorem Afs {F : Fx} {f : Nat} {S Z : Shape} {g : S.ty.den -> Option Z.ty.den} {fn : Func} {m : List (Nat × Code)} (hG : aC Tryz.prog F.Γ) (hf : Tryz.prog.funcs[f]? = some fn) (hin : wn Tryz.prog F fn.ntmps m) (hc : F.cx = Acx := by kernel_rfl) (hb : fn.body = some (au fn) := by kernel_rfl) (hok : akw fn S Z = true := by kernel_rfl) (hm2 : bm (au fn) 0 = m := by kernel_rfl) (hrf : hasRf (au fn) = false := by kernel_rfl) (hmF : F.m = S.objs.length := by kernel_rfl) (hx : pV f = false := by kernel_rfl) (hg : ∀ s, (ajd F fn S Z s).val = g s := by intro s; kernel_rfl) : apT Tryz.prog ⟨f, S, Z, g⟩ :=
  (Afk hG hf hin hc hb hok hm2 hrf hmF hg).x hx
theorem Als {F : Fx} {nt : Nat} {L : Lp} {c : Code} {k : Nat} {b : L.S.ty.den -> Option (L.S.ty.den ⊕ L.Out)} {m : List (Nat × Code)} (hG : aC Tryz.prog F.Γ) (hin : wn Tryz.prog F nt m) (hc : F.cx = Acx := by kernel_rfl) (hΛ : F.Λ k = L.go (fun s => aQ b s) F.m := by kernel_rfl) (hm2 : bm c k = m := by kernel_rfl) (hc2 : fm nt c = true := by kernel_rfl) (hrf : hasRf c = false := by kernel_rfl) (hb : ∀ s, (L.body F c k s).val = b s := by intro s; kernel_rfl) : lc Tryz.prog F nt k c :=
  sQ (F := F) (f := fun s => aQ b s) (hc ▸ fe) hG bz (fun _ => rfl) hΛ hm2 hin hc2 (bd _ hrf) hb
theorem Af0 {l : List Ent} {f : Nat} {S Z : Shape} {g : S.ty.den -> Option Z.ty.den} {fn : Func} (hf : Tryz.prog.funcs[f]? = some fn) (hl : asn Tryz.prog l) (hb : fn.body = some (au fn) := by kernel_rfl) (hok : akw fn S Z = true := by kernel_rfl) (hm2 : bm (au fn) 0 = [] := by kernel_rfl) (hrf : hasRf (au fn) = false := by kernel_rfl) (hmF : 0 = S.objs.length := by kernel_rfl) (hx : pV f = false := by kernel_rfl) (hg : ∀ s, (ajd (AF0 l) fn S Z s).val = g s := by intro s; kernel_rfl) : apT Tryz.prog ⟨f, S, Z, g⟩ :=
  Afs (F := AF0 l) (m := []) (ai hl) hf trivial rfl hb hok hm2 hrf hmF hx hg
abbrev LA (F : Fx) (fn : Func) (k i : Nat) : Prop := lc Tryz.prog F fn.ntmps k (fI (au fn) i)
def lp (fn : Func) (ks : List Nat) : List (Nat × Code) := ks.zipIdx.map fun q => (q.1, fI (au fn) q.2)
def awp : List (Nat × (St -> DT (Ex × St))) -> Nat -> St -> DT (Ex × St)
  | [], _, _ => .fail
  | q :: l, k, st => bif Nat.beq k q.1 then q.2 st else awp l k st
def AFl (l : List Ent) (g : List (Nat × (St -> DT (Ex × St)))) (m : Nat) : Fx := ail Acx (dm l) (awp g) m
def Lp1 (S : Shape) (k : Nat) (X : Shape) : Lp := ⟨S, .exit k, X, .exit (80000000 + k), ⟨[], []⟩⟩
def zZ : Ent := ⟨162, Qj, Qe, sw⟩
theorem ah1 : AX zZ := Af0 (l := []) Tryz.func162 trivial
def x7 : Ent := ⟨120, QJ, Qe, kj⟩
theorem afu : AX x7 := Af0 (l := []) Tryz.func120 trivial
def agL : Ent := ⟨163, ⟨[], []⟩, QJ, aiw⟩
theorem aoV : AX agL := Af0 (l := []) Tryz.func163 trivial
def agK : Ent := ⟨121, QW, QJ, yK⟩
theorem aoU : AX agK := Af0 (l := [zZ, x7, agL]) Tryz.func121 ⟨ah1, afu, aoV, trivial⟩
def aba : Lp := Lp1 ⟨[(1, .dat (.list .str)), (2, .ptr 0 ac 0 []), (5, .own ac 1), (6, DS), (7, DI)], QV⟩ 0 ⟨[(2, .ptr 0 ac 0 []), (5, .own ac 1), (6, DS)], QV⟩
def ael : Ent := ⟨119, ⟨[(0, .dat ac), (1, .dat (.list .str))], []⟩, ⟨Qy, Qb⟩, sT⟩
def xL : Fx := AFl [agK] [(0, aba.go yL 0)] 0
theorem afv : aC Tryz.prog (xL).Γ := ai ⟨aoU, trivial⟩
theorem alR : LA xL Tryz.f119 0 0 := Als (L := aba) (b := pZ) (m := []) afv trivial
theorem anC : AX ael := Afs (F := xL) (fn := Tryz.f119) (m := lp Tryz.f119 [0]) afv Tryz.func119 ⟨alR, trivial⟩
def aes : Ent := ⟨77, Ro, ⟨Qy, Qb⟩, vG⟩
theorem anN : AX aes := Af0 (l := [ael]) Tryz.func77 ⟨anC, trivial⟩
def abQ : Ent := ⟨96, ⟨[(0, .dat ac), (1, DS)], []⟩, Qe, ab8⟩
theorem aj8 : AX abQ := Af0 (l := []) Tryz.func96 trivial
def abc : Lp := Lp1 ⟨[(0, .dat (.list af)), (3, .ptr 0 ac 0 []), (5, .own af 1), (6, DI)], [.box 39 ac (.dat ac), .arr 58 af false]⟩ 0 ⟨[(5, .own af 0)], QU⟩
def aen : Ent := ⟨37, QX, Qg, zC⟩
def xN : Fx := AFl [abQ] [(0, abc.go yN 0)] 0
theorem afx : aC Tryz.prog (xN).Γ := ai ⟨aj8, trivial⟩
theorem alU : LA xN Tryz.f37 0 0 := Als (L := abc) (b := qa) (m := []) afx trivial
theorem anF : AX aen := Afs (F := xN) (fn := Tryz.f37) (m := lp Tryz.f37 [0]) afx Tryz.func37 ⟨alU, trivial⟩
def uV : Ent := ⟨118, QK, Qe, uN⟩
theorem aa3 : AX uV := Af0 (l := []) Tryz.func118 trivial
def wi : Ent := ⟨146, ⟨[(0, .dat ak)], []⟩, ⟨[(0, .agg [(.own aK 0)])], [.arr 87 aK false]⟩, tX⟩
theorem adI : AX wi := Af0 (l := []) Tryz.func146 trivial
def ae7 : Lp := ⟨⟨[(2, .ptr 0 ak 0 []), (3, .ptr 1 aw 0 []), (4, .ptr 2 bC 0 []), (5, DI)], QE⟩, .ret, ⟨[(4, .ptr 0 bC 0 [])], [.box 149 bC (.agg [(.dat ak), DI, DI])]⟩, (.exit 0), ⟨[(2, .ptr 0 ak 0 []), (3, .ptr 1 aw 0 []), (4, .ptr 2 bC 0 [])], QE⟩⟩
def ae8 : Lp := Lp1 ⟨Rx, QE⟩ 2 ⟨Rx, QE⟩
def ae9 : Lp := Lp1 ⟨[(3, .ptr 0 aw 0 []), (4, .ptr 1 bC 0 []), (6, DI), (7, .ptr 2 ak 0 []), (8, DI)], [.box 85 aw (.dat aw), .box 149 bC (.agg [Qp, DI, DI]), .box 32 ak (.agg [(.own aK 3)]), .arr 87 aK false]⟩ 4 ⟨[(4, .ptr 0 bC 0 []), (6, DI), (7, .ptr 1 ak 0 [])], [.box 149 bC (.agg [Qp, DI, DI]), .box 32 ak (.agg [(.own aK 2)]), .arr 87 aK false]⟩
def abR : Ent := ⟨88, ⟨[(0, .dat ak), (1, .dat aw)], []⟩, ⟨[(0, .dat bC)], []⟩, sV⟩
def tC : Fx := AFl [uV, wi] [(0, ae7.go acF 0), (2, ae8.go acG 0), (4, ae9.go acH 0)] 0
theorem xg : aC Tryz.prog (tC).Γ := ai ⟨aa3, adI, trivial⟩
theorem api : LA tC Tryz.f88 0 0 := Als (L := ae7) (b := tU) (m := []) xg trivial
theorem apj : LA tC Tryz.f88 2 1 := Als (L := ae8) (b := tV) (m := []) xg trivial
theorem apk : LA tC Tryz.f88 4 2 := Als (L := ae9) (b := tW) (m := []) xg trivial
theorem ajE : AX abR := Afs (F := tC) (fn := Tryz.f88) (m := lp Tryz.f88 [0, 2, 4]) xg Tryz.func88 ⟨api, apj, apk, trivial⟩
def agQ : Ent := ⟨157, ⟨[(0, .dat aG), (1, .dat aG)], []⟩, Q7, yO⟩
theorem apf : AX agQ := Af0 (l := []) Tryz.func157 trivial
def aek : Ent := ⟨245, ⟨[(0, DS), (1, DI)], []⟩, Rt, alu⟩
theorem an8 : AX aek := Af0 (l := []) Tryz.func245 trivial
def aaX : Lp := Lp1 ⟨[(0, DS), (4, .own .str 0), (5, DS), (6, DI)], [.arr 9 .str false]⟩ 0 ⟨[(4, .own .str 0), (5, DS)], [.arr 9 .str false]⟩
def aej : Ent := ⟨247, Qn, ⟨[(0, .own .str 0), (1, DB)], [.arr 9 .str false]⟩, als⟩
def xI : Fx := AFl [] [(0, aaX.go afi 0)] 0
theorem afh : aC Tryz.prog (xI).Γ := ai trivial
theorem alM : LA xI Tryz.f247 0 0 := Als (L := aaX) (b := afg) (m := []) afh trivial
theorem an7 : AX aej := Afs (F := xI) (fn := Tryz.f247) (m := lp Tryz.f247 [0]) afh Tryz.func247 ⟨alM, trivial⟩
def adr : Lp := ⟨⟨[(0, DS), (3, DI)], []⟩, .ret, Q1, (.exit 0), ⟨[], []⟩⟩
def zY : Ent := ⟨248, Qn, Qe, ait⟩
def aai : Fx := AFl [] [(0, adr.go ahz 0)] 0
theorem ahy : aC Tryz.prog (aai).Γ := ai trivial
theorem an6 : LA aai Tryz.f248 0 0 := Als (L := adr) (b := ahx) (m := []) ahy trivial
theorem ah0 : AX zY := Afs (F := aai) (fn := Tryz.f248) (m := lp Tryz.f248 [0]) ahy Tryz.func248 ⟨an6, trivial⟩
def aaZ : Lp := ⟨⟨[(3, .own .str 0), (4, DB), (5, DI)], [.arr 9 .str false]⟩, .ret, Q1, (.exit 0), Rs⟩
def x6 : Ent := ⟨228, Qn, Qe, vF⟩
def xK : Fx := AFl [aej, zY] [(0, aaZ.go afp 0)] 0
theorem afo : aC Tryz.prog (xK).Γ := ai ⟨an7, ah0, trivial⟩
theorem alO : LA xK Tryz.f228 0 0 := Als (L := aaZ) (b := afn) (m := []) afo trivial
theorem afq : AX x6 := Afs (F := xK) (fn := Tryz.f228) (m := lp Tryz.f228 [0]) afo Tryz.func228 ⟨alO, trivial⟩
def adq : Lp := Lp1 ⟨[(0, DI), (3, DS), (4, DI)], []⟩ 0 ⟨[(3, DS)], []⟩
def agJ : Ent := ⟨249, Qr, Qn, an4⟩
def aah : Fx := AFl [] [(0, adq.go ahw 0)] 0
theorem ahu : aC Tryz.prog (aah).Γ := ai trivial
theorem an5 : LA aah Tryz.f249 0 0 := Als (L := adq) (b := aht) (m := []) ahu trivial
theorem aoT : AX agJ := Afs (F := aah) (fn := Tryz.f249) (m := lp Tryz.f249 [0]) ahu Tryz.func249 ⟨an5, trivial⟩
def zl : Lp := Lp1 ⟨[(0, DS), (3, DI), (4, DI)], []⟩ 0 ⟨[(0, DS), (3, DI)], []⟩
def wh : Ent := ⟨229, Qn, Qe, xd⟩
def wl : Fx := AFl [agJ] [(0, zl.go adD 0)] 0
theorem adC : aC Tryz.prog (wl).Γ := ai ⟨aoT, trivial⟩
theorem ak9 : LA wl Tryz.f229 0 0 := Als (L := zl) (b := adB) (m := []) adC trivial
theorem adE : AX wh := Afs (F := wl) (fn := Tryz.f229) (m := lp Tryz.f229 [0]) adC Tryz.func229 ⟨ak9, trivial⟩
def cp : Lp := ⟨⟨[(1, .ptr 0 aF 0 []), (32, DB)], Ra⟩, .nrm, ⟨[(1, .ptr 0 aF 0 [])], Ra⟩, .ret, Q1⟩
def dH : Lp := ⟨⟨[(1, .ptr 0 aF 0 [])], Ra⟩, .ret, Q1, (.exit 90000010), ⟨[], []⟩⟩
def ew : Lp := ⟨⟨[(1, .ptr 0 aF 0 [])], Ra⟩, .ret, Q1, (.exit 90000003), ⟨[], []⟩⟩
def kS : Ent := ⟨259, Rt, Qe, alv⟩
def cM : Fx := AF0 [zY, x6, wh]
def iL : aeC := [(100002, cp.go bg 0), (10, dH.go lU 0), (3, ew.go bR 0)]
theorem ac8 (s : cp.S.ty.den) : @Eq (Option cp.Out) ((evK cM iL (bf (au Tryz.f259) 100002) 0 (cp.S.enc s)).bind fun (e, st) => cp.out (cM).m e st).val (bg s) := by kernel_rfl
theorem aiu (s : dH.S.ty.den) : @Eq (Option dH.Out) ((evK cM iL (bf (au Tryz.f259) 10) 0 (dH.S.enc s)).bind fun (e, st) => dH.out (cM).m e st).val (lU s) := by kernel_rfl
theorem aj5 (s : ew.S.ty.den) : @Eq (Option ew.Out) ((evK cM iL (bf (au Tryz.f259) 3) 0 (ew.S.enc s)).bind fun (e, st) => ew.out (cM).m e st).val (bR s) := by kernel_rfl
theorem an9 (s : (kS).S.ty.den) : (aje cM iL Tryz.f259 (kS).S (kS).Z s).val = (kS).g s := by kernel_rfl
theorem tM : aC Tryz.prog (cM).Γ := ai ⟨ah0, afq, adE, trivial⟩
theorem ac9 : lN Tryz.prog cM Tryz.f259.ntmps (cp.go bg 0) (bf (au Tryz.f259) 100002) :=
  cw fe tM bz (L := cp) (k := 0) (f := bg) (C := iL) (l := []) (m := []) (by kernel_rfl) trivial (by kernel_rfl) trivial (by kernel_rfl) (bd _ (by kernel_rfl)) ac8
theorem aiv : lN Tryz.prog cM Tryz.f259.ntmps (dH.go lU 0) (bf (au Tryz.f259) 10) :=
  cw fe tM bz (L := dH) (k := 0) (f := lU) (C := iL) (l := []) (m := []) (by kernel_rfl) trivial (by kernel_rfl) trivial (by kernel_rfl) (bd _ (by kernel_rfl)) aiu
theorem aj6 : lN Tryz.prog cM Tryz.f259.ntmps (ew.go bR 0) (bf (au Tryz.f259) 3) :=
  cw fe tM bz (L := ew) (k := 0) (f := bR) (C := iL) (l := []) (m := [(dH.go lU 0, bf (au Tryz.f259) 10)]) (by kernel_rfl) trivial (by kernel_rfl) ⟨aiv, trivial⟩ (by kernel_rfl) (bd _ (by kernel_rfl)) aj5
theorem anA : EntOK Tryz.prog kS :=
  uF (C := iL) (F := cM) fe tM bz (fn := Tryz.f259) (l := []) (m := [(cp.go bg 0, bf (au Tryz.f259) 100002), (ew.go bR 0, bf (au Tryz.f259) 3)]) Tryz.func259 (by kernel_rfl) (by kernel_rfl) (by kernel_rfl) trivial (by kernel_rfl) ⟨ac9, aj6, trivial⟩ (bd _ (by kernel_rfl)) (by kernel_rfl) an9
theorem anB : AX kS := (anA).x (by kernel_rfl)
def aiA : Ent := ⟨246, Rt, ⟨[(0, DS), (1, DI)], []⟩, apG⟩
theorem aqC : AX aiA := Af0 (l := [kS]) Tryz.func246 ⟨anB, trivial⟩
def aaY : Lp := ⟨⟨[(0, DS), (2, .ptr 0 aF 0 []), (4, DI)], [.box 245 aF QN]⟩, .ret, ⟨[(2, .ptr 0 aF 0 []), (3, DI)], Ra⟩, (.exit 0), ⟨[(2, .ptr 0 aF 0 [])], [.box 245 aF QN]⟩⟩
def x5 : Ent := ⟨227, Qn, ⟨[(0, .dat aF), (1, DI)], []⟩, nD⟩
def xJ : Fx := AFl [aek, aiA] [(0, aaY.go afl 0)] 0
theorem afk : aC Tryz.prog (xJ).Γ := ai ⟨an8, aqC, trivial⟩
theorem alN : LA xJ Tryz.f227 0 0 := Als (L := aaY) (b := afj) (m := []) afk trivial
theorem afm : AX x5 := Afs (F := xJ) (fn := Tryz.f227) (m := lp Tryz.f227 [0]) afk Tryz.func227 ⟨alN, trivial⟩
def aaK : Ent := ⟨199, Qn, Qe, ko⟩
theorem akB : AX aaK := Af0 (l := [x5]) Tryz.func199 ⟨afm, trivial⟩
def adl : Ent := ⟨200, ⟨[(0, .dat bc), (1, DI)], []⟩, QY, kc⟩
theorem alX : AX adl := Af0 (l := []) Tryz.func200 trivial
def aet : Ent := ⟨201, ⟨[(0, .dat bc), (1, DI)], []⟩, QY, nE⟩
theorem anO : AX aet := Af0 (l := []) Tryz.func201 trivial
def aeq : Ent := ⟨202, Qj, Qe, ref10_Alike⟩
theorem anL : AX aeq := Af0 (l := [x6, wh]) Tryz.func202 ⟨afq, adE, trivial⟩
def adk : Ent := ⟨158, ⟨[(0, .dat aG), (1, .dat aj)], []⟩, Q7, cu⟩
theorem alW : AX adk := Af0 (l := [aaK, adl, aet, aeq]) Tryz.func158 ⟨akB, alX, anO, anL, trivial⟩
def adi : Ent := ⟨198, Ru, QY, qM⟩
theorem alS : AX adi := Af0 (l := [x5]) Tryz.func198 ⟨afm, trivial⟩
def abb : Lp := Lp1 ⟨[(0, .dat (.list af)), (2, .ptr 0 bc 0 []), (3, .ptr 1 bc 0 []), (4, DI)], QR⟩ 0 ⟨[(2, .ptr 0 bc 0 []), (3, .ptr 1 bc 0 [])], QR⟩
def aem : Ent := ⟨156, QO, QY, sU⟩
def xM : Fx := AFl [adi] [(0, abb.go tO 0)] 0
theorem afw : aC Tryz.prog (xM).Γ := ai ⟨alS, trivial⟩
theorem alT : LA xM Tryz.f156 0 0 := Als (L := abb) (b := iT) (m := []) afw trivial
theorem anD : AX aem := Afs (F := xM) (fn := Tryz.f156) (m := lp Tryz.f156 [0]) afw Tryz.func156 ⟨alT, trivial⟩
def aer : Ent := ⟨155, QY, Q7, zD⟩
theorem anM : AX aer := Af0 (l := []) Tryz.func155 trivial
def ae5 : Lp := Lp1 ⟨[(1, .ptr 0 aw 0 []), (2, .ptr 1 aG 0 []), (3, .ptr 2 aG 0 []), (4, DI)], Q4⟩ 0 ⟨[(1, .ptr 0 aw 0 []), (2, .ptr 1 aG 0 []), (3, .ptr 2 aG 0 [])], Q4⟩
def ae6 : Lp := Lp1 ⟨[(1, .ptr 0 aw 0 []), (2, .ptr 1 aG 0 []), (3, .ptr 2 aG 0 []), (5, DI)], Q4⟩ 2 ⟨[(2, .ptr 0 aG 0 []), (3, .ptr 1 aG 0 [])], [.box 95 aG Qh, .box 95 aG (.dat aG)]⟩
def aiE : Ent := ⟨105, ⟨[(0, .dat aw)], []⟩, Q7, jt⟩
def wP : Fx := AFl [agQ, adk, aem, aer] [(0, ae5.go xe 0), (2, ae6.go xf 0)] 0
theorem acD : aC Tryz.prog (wP).Γ := ai ⟨apf, alW, anD, anM, trivial⟩
theorem apg : LA wP Tryz.f105 0 0 := Als (L := ae5) (b := mf) (m := []) acD trivial
theorem aph : LA wP Tryz.f105 2 1 := Als (L := ae6) (b := mg) (m := []) acD trivial
theorem aqG : AX aiE := Afs (F := wP) (fn := Tryz.f105) (m := lp Tryz.f105 [0, 2]) acD Tryz.func105 ⟨apg, aph, trivial⟩
def aaL : Ent := ⟨118, ⟨[(0, .agg [(.own aK 0)]), (1, DI)], [.arr 87 aK false]⟩, ⟨[(0, DB)], [.arr 87 aK false]⟩, vj⟩
def akf : Fx := AFl [] [] 1
theorem akC : AX aaL := Afs (F := akf) (fn := Tryz.f118) (m := []) (ai trivial) Tryz.func118 trivial
def adw : Lp := Lp1 ⟨[(4, .ptr 0 ak 0 []), (6, .ptr 1 ak 0 []), (7, .dat (.list (.int .i64)))], Qz⟩ 0 ⟨[(4, .ptr 0 ak 0 []), (6, .ptr 1 ak 0 [])], Qz⟩
def aab : Ent := ⟨89, QK, QK, uM⟩
def aan : Fx := AFl [uV, wi, aaL] [(0, adw.go aa2 0)] 0
theorem ah9 : aC Tryz.prog (aan).Γ := ai ⟨aa3, adI, akC, trivial⟩
theorem anP : LA aan Tryz.f89 0 0 := Als (L := adw) (b := rP) (m := []) ah9 trivial
theorem ahA : AX aab := Afs (F := aan) (fn := Tryz.f89) (m := lp Tryz.f89 [0]) ah9 Tryz.func89 ⟨anP, trivial⟩
def wM : Ent := ⟨98, QK, Qe, xp⟩
theorem ac5 : AX wM := Af0 (l := []) Tryz.func98 trivial
def n9 : Ent := ⟨59, QK, ⟨[(0, .dat aw), (1, DI)], []⟩, oc⟩
theorem sS : AX n9 := Af0 (l := [wM]) Tryz.func59 ⟨ac5, trivial⟩

end D
open Go Go.X Go.Proofs D
namespace D
def uo : Ent := ⟨230, Qn, Qe, ld⟩
theorem adP : AX uo := Af0 (l := []) Tryz.func230 trivial
def sB : Ent := ⟨205, Qj, Qr, pR⟩
theorem abj : AX sB := Af0 (l := [uo]) Tryz.func205 ⟨adP, trivial⟩
def mL : Ent := ⟨161, Qj, Qr, fC⟩
theorem rC : AX mL := Af0 (l := [sB]) Tryz.func161 ⟨abj, trivial⟩
def jm : Lp := Lp1 ⟨[(0, .dat (.list .str)), (1, .fn 161 [] []), (5, DS), (6, DI)], []⟩ 0 ⟨[(5, DS)], []⟩
def kf : Ent := ⟨160, ⟨[(0, .dat (.list .str)), (1, .fn 161 [] [])], []⟩, Qn, mh⟩
def eM : Fx := AFl [mL] [(0, jm.go kv 0)] 0
theorem ku : aC Tryz.prog (eM).Γ := ai ⟨rC, trivial⟩
theorem ru : LA eM Tryz.f160 0 0 := Als (L := jm) (b := kt) (m := []) ku trivial
theorem rS : AX kf := Afs (F := eM) (fn := Tryz.f160) (m := lp Tryz.f160 [0]) ku Tryz.func160 ⟨ru, trivial⟩
def agU : Ent := ⟨117, ⟨[(0, .dat (.list .str))], []⟩, Qn, aog⟩
theorem apt : AX agU := Af0 (l := [kf]) Tryz.func117 ⟨rS, trivial⟩
def iJ : Ent := ⟨74, QJ, Qe, jD⟩
theorem kG : AX iJ := Af0 (l := []) Tryz.func74 trivial
def tz : Ent := ⟨75, QW, QJ, xt⟩
theorem xj : AX tz := Af0 (l := [agU, iJ]) Tryz.func75 ⟨apt, kG, trivial⟩
def adz : Lp := Lp1 ⟨[(2, .ptr 0 ac 0 []), (5, .own ac 1), (6, DS), (9, .dat (.list .str)), (10, DI), (11, DI)], QV⟩ 0 ⟨[(2, .ptr 0 ac 0 []), (5, .own ac 1), (6, DS)], QV⟩
def agT : Ent := ⟨114, ⟨[(0, .dat ac), (1, .dat (.list .str))], []⟩, ⟨Qy, Qb⟩, span_Parts⟩
def aao : Fx := AFl [tz] [(0, adz.go ahJ 0)] 0
theorem ahI : aC Tryz.prog (aao).Γ := ai ⟨xj, trivial⟩
theorem aof : LA aao Tryz.f114 0 0 := Als (L := adz) (b := ahH) (m := []) ahI trivial
theorem apr : AX agT := Afs (F := aao) (fn := Tryz.f114) (m := lp Tryz.f114 [0]) ahI Tryz.func114 ⟨aof, trivial⟩
def zU : Ent := ⟨67, Ro, ⟨Qy, Qb⟩, yB⟩
theorem ahl : AX zU := Af0 (l := [agT]) Tryz.func67 ⟨apr, trivial⟩
def vm : Ent := ⟨216, Qn, QJ, yS⟩
theorem zG : AX vm := Af0 (l := []) Tryz.func216 trivial
def pq : Ent := ⟨324, Qf, ⟨Qy, Qb⟩, yw⟩
theorem zz : AX pq := Af0 (l := [vm]) Tryz.func324 ⟨zG, trivial⟩
def pg : Ent := ⟨337, Qf, ⟨Qy, Qb⟩, yn⟩
theorem zr : AX pg := Af0 (l := [vm]) Tryz.func337 ⟨zG, trivial⟩
def nL : Ent := ⟨348, Qf, ⟨Qy, Qb⟩, ws⟩
theorem yr : AX nL := Af0 (l := []) Tryz.func348 trivial
def abd : Lp := Lp1 Q2 0 Q2
def eL : Ent := ⟨217, Qn, QJ, eG⟩
def xO : Fx := AFl [] [(0, abd.go af5 0)] 0
theorem af4 : aC Tryz.prog (xO).Γ := ai trivial
theorem ame : LA xO Tryz.f217 0 0 := Als (L := abd) (b := af3) (m := []) af4 trivial
theorem gk : AX eL := Afs (F := xO) (fn := Tryz.f217) (m := lp Tryz.f217 [0]) af4 Tryz.func217 ⟨ame, trivial⟩
def nM : Ent := ⟨355, Qf, ⟨Qy, Qb⟩, wt⟩
theorem yv : AX nM := Af0 (l := [eL]) Tryz.func355 ⟨gk, trivial⟩
def mJ : Ent := ⟨365, Qf, ⟨Qy, Qb⟩, uI⟩
theorem wH : AX mJ := Af0 (l := [eL]) Tryz.func365 ⟨gk, trivial⟩
def mK : Ent := ⟨371, Qf, ⟨Qy, Qb⟩, uJ⟩
theorem wI : AX mK := Af0 (l := []) Tryz.func371 trivial
def agE : Ent := ⟨72, Qf, ⟨Qy, Qb⟩, nX⟩
noncomputable def ao7 : Fx := ail Acx (avw Acx (dm [pq, pg, nL, nM, mJ, mK]) 110 Tryz.f110 (dm [pq, pg, nL, nM, mJ, mK])) (fun k st => .fail) 0
theorem aoJ : AX agE := Afs (F := ao7) (fn := Tryz.f72) (m := []) (acd (by kernel_rfl) (agd (F := (ail Acx (dm [pq, pg, nL, nM, mJ, mK]) (fun _ _ => .fail) 0)) fe (ai ⟨zz, zr, yr, yv, wH, wI, trivial⟩) bz Tryz.func110 (by kernel_rfl) (by kernel_rfl) (by kernel_rfl)) (ai ⟨zz, zr, yr, yv, wH, wI, trivial⟩)) Tryz.func72 trivial
def lY : Ent := ⟨60, ⟨[(0, .dat aw)], []⟩, Qe, tb⟩
theorem qX : AX lY := Af0 (l := []) Tryz.func60 trivial
def fE : Ent := ⟨231, Qj, Qr, mU⟩
set_option maxHeartbeats 1000000 in
theorem rm (a b : ByteArray) (w : World) : Calls Tryz.prog 231 #[.string a, .string b] w fun e w' => e = .returned (.int .i64 (Lib.compareBytes a.data.toList b.data.toList)) /\ w' = w := by
  go_enter Tryz.func231, Tryz.ntmps231
  go_wp2
  rw [run_callFunc_extern Tryz.func250 (by kernel_rfl) (by kernel_rfl) (by kernel_rfl) (e := Extern.BytealgCompare.compare) (by kernel_rfl), Lib.run_compareString]
  simp only [Result.andThen]
  rw [Oper.upon_value]
  go_wp2
  go_ret
  exact ⟨rfl, rfl⟩
theorem tg : EntOK Tryz.prog fE := avU (g := fun a b => Lib.compareBytes a b) Tryz.func231 (by kernel_rfl) rm
theorem th : AX fE := tg.x (by kernel_rfl)
def x9 : Ent := ⟨208, Qj, Qr, adJ⟩
theorem ai2 : AX x9 := Af0 (l := [fE]) Tryz.func208 ⟨th, trivial⟩
def aaN : Ent := ⟨207, ⟨[(0, .dat af), (1, DS)], []⟩, Qr, aaA⟩
theorem akN : AX aaN := Af0 (l := [x9]) Tryz.func207 ⟨ai2, trivial⟩
def cW : Lp := Lp1 ⟨[(0, .dat (.list af)), (1, DS), (2, .fn 207 [] []), (8, DI), (9, DI), (10, DI)], []⟩ 0 ⟨[(0, .dat (.list af)), (1, DS), (2, .fn 207 [] []), (8, DI), (9, DI)], []⟩
def dq : Ent := ⟨206, ⟨[(0, .dat (.list af)), (1, DS), (2, .fn 207 [] [])], []⟩, ⟨[(0, DI), (1, DB)], []⟩, ej⟩
def bU : Fx := AFl [aaN] [(0, cW.go dz 0)] 0
theorem dy : aC Tryz.prog (bU).Γ := ai ⟨akN, trivial⟩
theorem kd : LA bU Tryz.f206 0 0 := Als (L := cW) (b := dw) (m := []) dy trivial
theorem kQ : AX dq := Afs (F := bU) (fn := Tryz.f206) (m := lp Tryz.f206 [0]) dy Tryz.func206 ⟨kd, trivial⟩
def tA : Ent := ⟨164, Rl, ⟨[(0, DI), (1, DB)], []⟩, vW⟩
theorem yX : AX tA := Af0 (l := [dq]) Tryz.func164 ⟨kQ, trivial⟩
def aac : Ent := ⟨127, Rl, ⟨[(0, .dat af), (1, DB)], []⟩, aom⟩
theorem apv : AX aac := Af0 (l := [tA]) Tryz.func127 ⟨yX, trivial⟩
def fi : Ent := ⟨165, ⟨[(0, .dat (.list aj))], []⟩, ⟨[(0, .fn 209 [] [(.ptr 0 (.list aj) 0 [])])], [.box 83 (.list aj) (.dat (.list aj))]⟩, gH⟩
theorem ll : AX fi := Af0 (l := []) Tryz.func165 trivial
def pD : Ent := ⟨174, ⟨[(0, .dat ac), (1, DS)], []⟩, Qe, uh⟩
theorem sX : AX pD := Af0 (l := []) Tryz.func174 trivial
def xC : Ent := ⟨375, ⟨[(0, .ptr 0 aE 0 []), (1, DI)], [.box 190 aE Qc]⟩, ⟨[], [.box 190 aE Qc]⟩, afJ⟩
def am2 : Fx := AFl [] [] 1
theorem afK : AX xC := Afs (F := am2) (fn := Tryz.f375) (m := []) (ai trivial) Tryz.func375 trivial
def aaT : Ent := ⟨380, Qw, QS, ahP⟩
def akl : Fx := AFl [pD, xC] [] 1
theorem akU : AX aaT := Afs (F := akl) (fn := Tryz.f380) (m := []) (ai ⟨sX, afK, trivial⟩) Tryz.func380 trivial
def fF : Ent := ⟨270, Qj, Qe, bV⟩
theorem lO : AX fF := Af0 (l := []) Tryz.func270 trivial
def lM : Ent := ⟨253, Qj, ⟨[(0, DS), (1, DB)], []⟩, mV⟩
theorem tj : AX lM := Af0 (l := [fF]) Tryz.func253 ⟨lO, trivial⟩
def pE : Ent := ⟨240, Qj, ⟨[(0, DS), (1, DB)], []⟩, uj⟩
theorem vM : AX pE := Af0 (l := [lM]) Tryz.func240 ⟨tj, trivial⟩

end D
open Go Go.X Go.Proofs D
namespace D
def uW : Ent := ⟨239, ⟨[(0, DS), (1, DS), (2, DS)], []⟩, ⟨[(0, DS), (1, DB)], []⟩, yR⟩
theorem aa6 : AX uW := Af0 (l := [pE]) Tryz.func239 ⟨vM, trivial⟩
def aad : Ent := ⟨379, Qw, QS, ai4⟩
def aoA : Fx := AFl [uW] [] 1
theorem ahK : AX aad := Afs (F := aoA) (fn := Tryz.f379) (m := []) (ai ⟨aa6, trivial⟩) Tryz.func379 trivial
def pF : Ent := ⟨359, Qj, Qe, mq⟩
theorem vN : AX pF := Af0 (l := [fF]) Tryz.func359 ⟨lO, trivial⟩
def aaS : Ent := ⟨378, Qw, QS, ahO⟩
def akk : Fx := AFl [aad, pF] [] 1
theorem akT : AX aaS := Afs (F := akk) (fn := Tryz.f378) (m := []) (ai ⟨ahK, vN, trivial⟩) Tryz.func378 trivial
def aaR : Ent := ⟨377, Qw, QS, ahN⟩
def akj : Fx := AFl [pD] [] 1
theorem akS : AX aaR := Afs (F := akj) (fn := Tryz.f377) (m := []) (ai ⟨sX, trivial⟩) Tryz.func377 trivial
def aaQ : Ent := ⟨376, Qw, QS, ahM⟩
def aki : Fx := AFl [] [] 1
theorem akR : AX aaQ := Afs (F := aki) (fn := Tryz.f376) (m := []) (ai trivial) Tryz.func376 trivial
def aaP : Ent := ⟨374, Qw, QS, ahL⟩
def akh : Fx := AFl [xC] [] 1
theorem akQ : AX aaP := Afs (F := akh) (fn := Tryz.f374) (m := []) (ai ⟨afK, trivial⟩) Tryz.func374 trivial
def rk : Shape := ⟨[(0, .yld 1012800 0), (1, DI), (2, .dat aj)], Rf⟩
def rl : Shape := ⟨[(0, DB)], Rf⟩
def wC : Ent := ⟨1012800, rk, rl, uT⟩
def wD : Fx := AFl [aaT, aad, aaS, aaR, aaQ, aaP] [] 3
theorem agB (s : rk.ty.den) : @Eq (Option rl.ty.den) (akZ wD evC 1012800 (ac7 Tryz.f128 0) rk rl s).val (uT s) := by kernel_rfl
theorem agC : AX wC :=
  acL (F := wD) (c := ac7 Tryz.f128 0) fe (ai ⟨akU, ahK, akT, akS, akR, akQ, trivial⟩) bz (by kernel_rfl) (by kernel_rfl) (by kernel_rfl) (m := []) (by kernel_rfl) trivial (by kernel_rfl) agB
def i9 : Lp := ⟨⟨[(0, .yld 1012800 0), (1, .ptr 1 (.list aj) 0 []), (3, DI)], Qm⟩, .ret, ⟨[], Qm⟩, (.exit 0), ⟨[], Qm⟩⟩
def ji : Ent := ⟨209, ⟨[(0, .yld 1012800 0), (1, .ptr 1 (.list aj) 0 [])], Qm⟩, ⟨[], Qm⟩, lj⟩
def dP : Fx := AFl [wC] [(0, i9.go jx 4)] 4
theorem jv : aC Tryz.prog (dP).Γ := ai ⟨agC, trivial⟩
theorem qg : LA dP Tryz.f209 0 0 := Als (L := i9) (b := ju) (m := []) jv trivial
theorem qN : AX ji := Afs (F := dP) (fn := Tryz.f209) (m := lp Tryz.f209 [0]) jv Tryz.func209 ⟨qg, trivial⟩
def abZ : Shape := ⟨[(0, DS), (1, .dat (.list aj))], []⟩
def aca : Shape := ⟨[(0, .dat aE)], []⟩
def wO : Ent := ⟨128, abZ, aca, akO⟩
def aiM : Fx := { cx := Acx, Γ := dm [fi, ji], Λ := fun k st => .fail, keep := fun _ => none, m := 0, rfs := fun k => bif Nat.beq k 3 then some 1012800 else none, its := [209] }
theorem aqR (s : abZ.ty.den) : @Eq (Option aca.ty.den) (ajd aiM Tryz.f128 abZ aca s).val (akO s) := by kernel_rfl
theorem aqS : EntOK Tryz.prog wO :=
  sO (F := aiM) fe (ai ⟨ll, qN, trivial⟩) bz (fn := Tryz.f128) (m := []) Tryz.func128 (by kernel_rfl) (by kernel_rfl) (by kernel_rfl) trivial (ajJ (m := [(3, ac7 Tryz.f128 0)]) (its := [209]) (by kernel_rfl) ⟨anW (Y := 1012800) (by kernel_rfl) (by kernel_rfl), trivial⟩ (by kernel_rfl) ⟨⟨_, Tryz.func209, by kernel_rfl, by kernel_rfl⟩, trivial⟩) (by kernel_rfl) aqR
theorem aqT : AX wO := (aqS).x (by kernel_rfl)
def rh : Ent := ⟨232, Qn, Qe, mT⟩
theorem wG : AX rh := Af0 (l := []) Tryz.func232 trivial
def xw : Ent := ⟨210, Qj, Qe, ad2⟩
theorem aic : AX xw := Af0 (l := [rh]) Tryz.func210 ⟨wG, trivial⟩
def tw : Ent := ⟨211, Qn, Qe, rx⟩
theorem acM : AX tw := Af0 (l := []) Tryz.func211 trivial
def iS : Lp := Lp1 ⟨[(0, .dat (.list .str)), (1, DS), (6, DI), (7, DI), (8, DI)], []⟩ 0 ⟨[(0, .dat (.list .str)), (1, DS), (6, DI), (7, DI)], []⟩
def jH : Ent := ⟨166, ⟨[(0, .dat (.list .str)), (1, DS)], []⟩, ⟨[(0, DI), (1, DB)], []⟩, lR⟩
def er : Fx := AFl [xw, tw] [(0, iS.go jQ 0)] 0
theorem jP : aC Tryz.prog (er).Γ := ai ⟨aic, acM, trivial⟩
theorem qO : LA er Tryz.f166 0 0 := Als (L := iS) (b := jO) (m := []) jP trivial
theorem rt : AX jH := Afs (F := er) (fn := Tryz.f166) (m := lp Tryz.f166 [0]) jP Tryz.func166 ⟨qO, trivial⟩
def abS : Ent := ⟨131, ⟨[(0, DS), (1, .dat (.list .str))], []⟩, Qr, apJ⟩
theorem aqJ : AX abS := Af0 (l := [jH]) Tryz.func131 ⟨rt, trivial⟩
def xB : Ent := ⟨130, ⟨[(0, .dat aE), (1, .dat af), (2, DB)], []⟩, ⟨[(0, .dat af), (1, DB)], []⟩, al4⟩
theorem aou : AX xB := Af0 (l := []) Tryz.func130 trivial
def agZ : Lp := ⟨⟨[(1, DS), (2, .ptr 0 aN 0 []), (4, .ptr 1 af 0 []), (5, .ptr 2 .bool 0 []), (6, .ptr 3 (.int .i64) 0 []), (8, DI), (1000000000, .dfr 129 [(.ptr 3 (.int .i64) 0 [])] [(.ptr 1 af 0 []), (.ptr 2 .bool 0 [])] aE)], [.box 36 aN (.dat aN), .box 58 af (.agg [DS, DS, DI]), .box 4 .bool DB, .box 3 (.int .i64) DI]⟩, .ret, QA, (.exit 80000000), ⟨[], []⟩⟩
def oz : Lp := ⟨QA, .nrm, ⟨[(4, .ptr 0 af 0 []), (5, .ptr 1 .bool 0 []), (6, .ptr 2 (.int .i64) 0 []), (7, DI)], [.box 58 af (.dat af), .box 4 .bool DB, .box 3 (.int .i64) DI]⟩, (.exit 80000000), ⟨[], []⟩⟩
def pL : Shape := ⟨[(0, .dat aN), (1, DS)], []⟩
def pO : Shape := ⟨[(0, .dat af), (1, DB), (2, DI), (3, DI)], []⟩
def ara : Ent := ⟨81, pL, pO, ajZ⟩
def vt : Fx := { cx := Acx, Γ := dm [n9, lY, aac, wO, abS, xB], Λ := fun k st => bif Nat.beq k 0 then agZ.go al7 0 st else bif Nat.beq k gd then oz.go afM 0 st else .fail, keep := fun _ => none, m := 0, dfr := fun k => bif Nat.beq k 0 then some (129, [6], [4, 5], aE) else none }
def aiO : Fx := ail Acx (dm [n9, lY, aac, wO, abS, xB]) (fun _ _ => .fail) 3
theorem aoy (s : oz.S.ty.den) : @Eq (Option (oz.S.ty.den ⊕ oz.Out)) (ack oz (vt).m aiO 129 Tryz.f129 s).val (afL s) := by kernel_rfl
theorem asd (s : pL.ty.den) : @Eq (Option pO.ty.den) (atr vt Tryz.f81 pL pO s).val (ajZ s) := by kernel_rfl
theorem afN : aC Tryz.prog (vt).Γ := ai ⟨sS, qX, apv, aqT, aqJ, aou, trivial⟩
theorem aqU : LA vt Tryz.f81 0 0 := Als (L := agZ) (b := al6) (m := []) afN trivial
theorem ase : EntOK Tryz.prog ara :=
  as4 (F := vt) (Fd := aiO) (L := oz) (fd := 129) (fnd := Tryz.f129) (b := afL) (g := afM) fe afN bz (fn := Tryz.f81) (m := lp Tryz.f81 [0]) Tryz.func81 (by kernel_rfl) (by kernel_rfl) (by kernel_rfl) ⟨aqU, trivial⟩ (fun _ => rfl) (by kernel_rfl) fe afN Tryz.func129 (by kernel_rfl) (by kernel_rfl) (by kernel_rfl) (by kernel_rfl) aoy (by kernel_rfl) asd
def adm : Ent := ⟨147, ⟨[(0, DI), (1, DI), (2, DI)], []⟩, Qe, qY⟩
theorem amn : AX adm := Af0 (l := []) Tryz.func147 trivial
def aaf : Ent := ⟨90, ⟨[(0, .dat ft)], []⟩, Qe, fu⟩
theorem ahR : AX aaf := Af0 (l := [adm]) Tryz.func90 ⟨amn, trivial⟩
def agI : Ent := ⟨112, ⟨[(0, .dat aK)], []⟩, Qe, anz⟩
theorem aoR : AX agI := Af0 (l := []) Tryz.func112 trivial
def iB : Lp := ⟨⟨[(0, .dat (.list aK)), (1, .fn 112 [] []), (7, DI), (8, DI)], []⟩, .ret, ⟨[(4, DI)], []⟩, (.exit 0), ⟨[], []⟩⟩
def jk : Ent := ⟨111, ⟨[(0, .dat (.list aK)), (1, .fn 112 [] [])], []⟩, Qr, l7⟩
def dR : Fx := AFl [agI] [(0, iB.go j5 0)] 0
theorem j4 : aC Tryz.prog (dR).Γ := ai ⟨aoR, trivial⟩
theorem qm : LA dR Tryz.f111 0 0 := Als (L := iB) (b := j3) (m := []) j4 trivial
theorem qQ : AX jk := Afs (F := dR) (fn := Tryz.f111) (m := lp Tryz.f111 [0]) j4 Tryz.func111 ⟨qm, trivial⟩
def zX : Ent := ⟨104, ⟨[(0, .dat ak)], []⟩, ⟨[(0, .agg [(.own aK 0)])], [.arr 87 aK false]⟩, aiq⟩
theorem ahs : AX zX := Af0 (l := []) Tryz.func104 trivial
def agX : Lp := ⟨⟨[(2, .ptr 0 ak 0 []), (3, .ptr 1 aw 0 []), (4, .ptr 2 ak 0 []), (14, .dat (.list (.int .i64))), (15, DI), (16, DI)], Rz⟩, .ret, ⟨[(4, .ptr 0 ak 0 []), (5, DI), (6, DI)], [.box 32 ak (.dat ak)]⟩, (.exit 0), ⟨[(2, .ptr 0 ak 0 []), (3, .ptr 1 aw 0 []), (4, .ptr 2 ak 0 [])], Rz⟩⟩
def agY : Lp := Lp1 ⟨[(4, .ptr 0 ak 0 []), (9, DI), (10, .ptr 1 ak 0 []), (57, .dat (.list (.int .i64))), (58, DI), (59, DI)], Qz⟩ 2 ⟨[(4, .ptr 0 ak 0 []), (9, DI), (10, .ptr 1 ak 0 [])], Qz⟩
def aei : Ent := ⟨63, ⟨[(0, .dat ak), (1, .dat aw)], []⟩, ⟨[(0, .dat ak), (1, DI), (2, DI)], []⟩, afe⟩
def zk : Fx := AFl [wM, jk, zX] [(0, agX.go alm 0), (2, agY.go aln 0)] 0
theorem aff : aC Tryz.prog (zk).Γ := ai ⟨ac5, qQ, ahs, trivial⟩
theorem aq8 : LA zk Tryz.f63 0 0 := Als (L := agX) (b := alh) (m := []) aff trivial
theorem aq9 : LA zk Tryz.f63 2 1 := Als (L := agY) (b := ali) (m := []) aff trivial
theorem alo : AX aei := Afs (F := zk) (fn := Tryz.f63) (m := lp Tryz.f63 [0, 2]) aff Tryz.func63 ⟨aq8, aq9, trivial⟩
def vw : Shape := ⟨[(0, .dat ft)], []⟩
def v6 : Shape := ⟨[(0, .dat aN), (1, DI)], []⟩
def ae0 : Ent := ⟨40, vw, v6, qt⟩
def arc : Fx := AF0 [aaf, aei]
theorem al8 : EntOK Tryz.prog ae0 := Afk (F := arc) (fn := Tryz.f40) (m := []) (ai ⟨ahR, alo, trivial⟩) Tryz.func40 trivial
theorem asf : AX ae0 := al8.x (by kernel_rfl)
def aiB : Ent := ⟨83, Re, Qn, xq⟩
theorem aqD : AX aiB := Af0 (l := []) Tryz.func83 trivial
def agN : Ent := ⟨109, ⟨[(0, .dat Rb)], []⟩, Ru, acA⟩
theorem aoX : AX agN := Af0 (l := [aiB]) Tryz.func109 ⟨aqD, trivial⟩

end D
open Go Go.X Go.Proofs D
namespace D
def ae4 : Lp := Lp1 ⟨[(0, .dat (.list af)), (3, .ptr 0 af 0 []), (5, .own af 1), (6, DB), (7, DI)], [.box 58 af (.dat af), .arr 58 af false]⟩ 0 ⟨[(3, .ptr 0 af 0 []), (5, .own af 1), (6, DB)], [.box 58 af (.dat af), .arr 58 af false]⟩
def aiC : Ent := ⟨108, ⟨[(0, .dat (.list af)), (1, .dat af)], []⟩, Qg, agl⟩
def abW : Fx := AFl [] [(0, ae4.go acB 0)] 0
theorem aj9 : aC Tryz.prog (abW).Γ := ai trivial
theorem aoY : LA abW Tryz.f108 0 0 := Als (L := ae4) (b := tP) (m := []) aj9 trivial
theorem aqE : AX aiC := Afs (F := abW) (fn := Tryz.f108) (m := lp Tryz.f108 [0]) aj9 Tryz.func108 ⟨aoY, trivial⟩
def ads : Lp := Lp1 ⟨[(0, .dat (.list Rb)), (3, .own af 0), (4, DI)], QU⟩ 0 ⟨[(3, .own af 0)], QU⟩
def agM : Ent := ⟨51, ⟨[(0, .dat (.list Rb))], []⟩, Qg, yM⟩
def aaj : Fx := AFl [agN, aiC] [(0, ads.go vg 0)] 0
theorem ah2 : aC Tryz.prog (aaj).Γ := ai ⟨aoX, aqE, trivial⟩
theorem anE : LA aaj Tryz.f51 0 0 := Als (L := ads) (b := o8) (m := []) ah2 trivial
theorem aoW : AX agM := Afs (F := aaj) (fn := Tryz.f51) (m := lp Tryz.f51 [0]) ah2 Tryz.func51 ⟨anE, trivial⟩
def mP : Shape := ⟨[(0, .dat ak), (1, .dat (.list af)), (2, .dat ac), (3, .dat (.list (.list .str))), (4, .dat aY)], []⟩
def mR : Shape := ⟨[(0, .dat aB)], []⟩
def kI (ref12_build_r : (ah × (List ae) × aa × (List (List (List UInt8))) × aA × Unit) -> Option (aO × Unit)) : Ent := ⟨50, mP, mR, ref12_build_r⟩
def aiF : Ent := ⟨76, QK, ⟨[(0, .dat aw), (1, DI)], []⟩, ab9⟩
theorem aqH : AX aiF := Af0 (l := [uV]) Tryz.func76 ⟨aa3, trivial⟩
def aaa : Ent := ⟨54, Re, Qn, mB⟩
theorem ah7 : AX aaa := Af0 (l := []) Tryz.func54 trivial
def aiD : Ent := ⟨52, Re, Qn, xr⟩
theorem aqF : AX aiD := Af0 (l := [aaa]) Tryz.func52 ⟨ah7, trivial⟩
def zm : Lp := Lp1 Rn 0 Rn
def sg : Ent := ⟨53, Qn, QJ, jZ⟩
def wm : Fx := AFl [] [(0, zm.go adH 0)] 0
theorem adG : aC Tryz.prog (wm).Γ := ai trivial
theorem akA : LA wm Tryz.f53 0 0 := Als (L := zm) (b := adF) (m := []) adG trivial
theorem wy : AX sg := Afs (F := wm) (fn := Tryz.f53) (m := lp Tryz.f53 [0]) adG Tryz.func53 ⟨akA, trivial⟩
def adg : Ent := ⟨56, Qj, Qe, tN⟩
theorem alP : AX adg := Af0 (l := []) Tryz.func56 trivial
def aep : Ent := ⟨57, Re, Qn, qb⟩
theorem anJ : AX aep := Af0 (l := []) Tryz.func57 trivial
def abP : Ent := ⟨55, Qn, QJ, qL⟩
theorem aj7 : AX abP := Af0 (l := []) Tryz.func55 trivial
def cB : Lp := ⟨⟨[(1, .ptr 0 Qa 0 []), (2, .ptr 1 aj 0 []), (3, DS), (5, .ptr 2 ac 0 []), (6, DS), (7, DS), (63, DB)], Qv⟩, .nrm, ⟨Rk, Qv⟩, (.exit 90100013), ⟨[], []⟩⟩
def eA : Lp := ⟨⟨Rk, Qv⟩, .ret, Rg, (.exit 90000016), ⟨[], []⟩⟩
def ez : Lp := ⟨⟨[(1, .ptr 0 Qa 0 []), (2, .ptr 1 aj 0 []), (3, DS), (5, .ptr 2 ac 0 [])], Qv⟩, .ret, Rg, (.exit 90000011), ⟨[], []⟩⟩
def mt : Ent := ⟨14, ⟨[(0, .dat Qa)], []⟩, Qf, uL⟩
def dM : Fx := AF0 [aaa, aiD, sg, adg, aep, abP]
def ke : aeC := [(100013, cB.go dI 0), (16, eA.go gc 0), (11, ez.go cF 0)]
theorem adQ (s : cB.S.ty.den) : @Eq (Option cB.Out) ((evK dM ke (bf (au Tryz.f14) 100013) 0 (cB.S.enc s)).bind fun (e, st) => cB.out (dM).m e st).val (dI s) := by kernel_rfl
theorem ajC (s : eA.S.ty.den) : @Eq (Option eA.Out) ((evK dM ke (bf (au Tryz.f14) 16) 0 (eA.S.enc s)).bind fun (e, st) => eA.out (dM).m e st).val (gc s) := by kernel_rfl
theorem ajA (s : ez.S.ty.den) : @Eq (Option ez.Out) ((evK dM ke (bf (au Tryz.f14) 11) 0 (ez.S.enc s)).bind fun (e, st) => ez.out (dM).m e st).val (cF s) := by kernel_rfl
theorem apb (s : (mt).S.ty.den) : (aje dM ke Tryz.f14 (mt).S (mt).Z s).val = (mt).g s := by kernel_rfl
theorem vh : aC Tryz.prog (dM).Γ := ai ⟨ah7, aqF, wy, alP, anJ, aj7, trivial⟩
theorem adR : lN Tryz.prog dM Tryz.f14.ntmps (cB.go dI 0) (bf (au Tryz.f14) 100013) :=
  cw fe vh bz (L := cB) (k := 0) (f := dI) (C := ke) (l := []) (m := []) (by kernel_rfl) trivial (by kernel_rfl) trivial (by kernel_rfl) (bd _ (by kernel_rfl)) adQ
theorem ajD : lN Tryz.prog dM Tryz.f14.ntmps (eA.go gc 0) (bf (au Tryz.f14) 16) :=
  cw fe vh bz (L := eA) (k := 0) (f := gc) (C := ke) (l := []) (m := []) (by kernel_rfl) trivial (by kernel_rfl) trivial (by kernel_rfl) (bd _ (by kernel_rfl)) ajC
theorem ajB : lN Tryz.prog dM Tryz.f14.ntmps (ez.go cF 0) (bf (au Tryz.f14) 11) :=
  cw fe vh bz (L := ez) (k := 0) (f := cF) (C := ke) (l := []) (m := [(cB.go dI 0, bf (au Tryz.f14) 100013), (eA.go gc 0, bf (au Tryz.f14) 16)]) (by kernel_rfl) trivial (by kernel_rfl) ⟨adR, ajD, trivial⟩ (by kernel_rfl) (bd _ (by kernel_rfl)) ajA
theorem apc : EntOK Tryz.prog mt :=
  uF (C := ke) (F := dM) fe vh bz (fn := Tryz.f14) (l := []) (m := [(ez.go cF 0, bf (au Tryz.f14) 11)]) Tryz.func14 (by kernel_rfl) (by kernel_rfl) (by kernel_rfl) trivial (by kernel_rfl) ⟨ajB, trivial⟩ (bd _ (by kernel_rfl)) (by kernel_rfl) apb
theorem apd : AX mt := (apc).x (by kernel_rfl)
def adu : Lp := Lp1 ⟨[(0, .dat (.list Qa)), (1, DI), (5, .own aj 0), (6, DI)], Ry⟩ 0 ⟨[(5, .own aj 0)], Ry⟩
def agO : Ent := ⟨41, ⟨[(0, .dat (.list Qa)), (1, DI)], []⟩, ⟨[(0, .own aj 0)], Ry⟩, acC⟩
def aal : Fx := AFl [mt] [(0, adu.go aa1 0)] 0
theorem ah6 : aC Tryz.prog (aal).Γ := ai ⟨apd, trivial⟩
theorem anH : LA aal Tryz.f41 0 0 := Als (L := adu) (b := o9) (m := []) ah6 trivial
theorem apa : AX agO := Afs (F := aal) (fn := Tryz.f41) (m := lp Tryz.f41 [0]) ah6 Tryz.func41 ⟨anH, trivial⟩
def aeo : Ent := ⟨203, Qf, ⟨Qy, Qb⟩, gz⟩
theorem anI : AX aeo := Af0 (l := [sg]) Tryz.func203 ⟨wy, trivial⟩
def adj : Ent := ⟨26, Qf, ⟨Qy, Qb⟩, fg⟩
theorem alV : AX adj := Af0 (l := [sg, abP]) Tryz.func26 ⟨wy, aj7, trivial⟩
def adh : Ent := ⟨204, QW, Qe, jY⟩
theorem alQ : AX adh := Af0 (l := [zZ, x7]) Tryz.func204 ⟨ah1, afu, trivial⟩
def adv : Lp := ⟨⟨[(3, .ptr 0 ac 0 []), (5, .own ac 1), (6, DI)], QV⟩, .ret, Rs, (.exit 0), ⟨[], []⟩⟩
def agP : Ent := ⟨159, ⟨[(0, .dat aj), (1, .dat ac)], []⟩, Qe, ref08_Lies⟩
def aam : Fx := AFl [aeo, adj, adh] [(0, adv.go vi 0)] 0
theorem ah8 : aC Tryz.prog (aam).Γ := ai ⟨anI, alV, alQ, trivial⟩
theorem anK : LA aam Tryz.f159 0 0 := Als (L := adv) (b := kn) (m := []) ah8 trivial
theorem ape : AX agP := Afs (F := aam) (fn := Tryz.f159) (m := lp Tryz.f159 [0]) ah8 Tryz.func159 ⟨anK, trivial⟩
def xT : Lp := Lp1 ⟨[(2, DI), (4, .ptr 0 ac 0 []), (7, .own aj 1), (8, .own aj 2), (9, DI)], [.box 39 ac (.dat ac), .arr 41 aj false, .arr 41 aj false]⟩ 0 ⟨[(7, .own aj 0)], Ry⟩
def aaM : Ent := ⟨107, ⟨[(0, .dat (.list Qa)), (1, .dat ac), (2, DI)], []⟩, ⟨[(0, .own aj 0)], Ry⟩, mC⟩
def uD : Fx := AFl [agO, agP] [(0, xT.go uO 0)] 0
theorem abA : aC Tryz.prog (uD).Γ := ai ⟨apa, ape, trivial⟩
theorem ajI : LA uD Tryz.f107 0 0 := Als (L := xT) (b := i6) (m := []) abA trivial
theorem akD : AX aaM := Afs (F := uD) (fn := Tryz.f107) (m := lp Tryz.f107 [0]) abA Tryz.func107 ⟨ajI, trivial⟩
def kJ : Lp := Lp1 ⟨[(1, .dat (.list af)), (3, .dat (.list (.list .str))), (5, .ptr 0 ak 0 []), (7, .ptr 1 ac 0 []), (9, .ptr 2 aY 0 []), (10, .ptr 3 aB 0 []), (11, .own .str 4), (12, DI)], Q5⟩ 0 ⟨[(1, .dat (.list af)), (3, .dat (.list (.list .str))), (5, .ptr 0 ak 0 []), (7, .ptr 1 ac 0 []), (9, .ptr 2 aY 0 []), (10, .ptr 3 aB 0 []), (11, .own .str 4)], Q5⟩
def kK : Lp := Lp1 ⟨[(1, .dat (.list af)), (3, .dat (.list (.list .str))), (5, .ptr 0 ak 0 []), (7, .ptr 1 ac 0 []), (9, .ptr 2 aY 0 []), (10, .ptr 3 aB 0 []), (14, .ptr 4 aw 0 []), (16, .own ac 5), (17, DI)], [.box 32 ak (.dat ak), .box 39 ac (.dat ac), .box 26 aY (.dat aY), .box 114 aB (.agg [Qp, DI]), .box 85 aw (.agg [(.dat (.list af)), (.own .str 6), (.own (.int .i64) 7), (.own aG 8), (.dat (.list aj))]), .arr 39 ac false, .arr 9 .str true, .arr 3 (.int .i64) false, .arr 95 aG false]⟩ 2 ⟨[(5, .ptr 0 ak 0 []), (7, .ptr 1 ac 0 []), (9, .ptr 2 aY 0 []), (10, .ptr 3 aB 0 []), (14, .ptr 4 aw 0 [])], [.box 32 ak (.dat ak), .box 39 ac (.dat ac), .box 26 aY (.dat aY), .box 114 aB (.agg [Qp, DI]), .box 85 aw (.agg [(.dat (.list af)), (.own .str 5), (.own (.int .i64) 6), (.own aG 7), (.dat (.list aj))]), .arr 9 .str true, .arr 3 (.int .i64) false, .arr 95 aG false]⟩
def kL : Lp := Lp1 ⟨[(10, .ptr 0 aB 0 []), (14, .ptr 1 aw 0 []), (22, .ptr 2 bC 0 []), (23, .ptr 3 ak 0 []), (24, DI)], [.box 114 aB (.agg [Qp, DI]), .box 85 aw (.agg [(.dat (.list af)), (.own .str 4), (.own (.int .i64) 5), (.own aG 6), (.own aj 7)]), .box 149 bC (.dat bC), .box 32 ak (.dat ak), .arr 9 .str true, .arr 3 (.int .i64) true, .arr 95 aG true, .arr 41 aj true]⟩ 4 ⟨[(10, .ptr 0 aB 0 []), (22, .ptr 1 bC 0 []), (23, .ptr 2 ak 0 [])], [.box 114 aB (.agg [Qp, DI]), .box 149 bC (.dat bC), .box 32 ak (.dat ak)]⟩
def x8 : Ent := ⟨50, mP, mR, zE⟩
def fR (ref12_build_r : (ah × (List ae) × aa × (List (List (List UInt8))) × aA × Unit) -> Option (aO × Unit)) : Fx := AFl [aes, abQ, aen, abR, aiE, aab, (kI ref12_build_r), aiF, aaM] [(0, kJ.go (ub ref12_build_r) 0), (2, kK.go (uc ref12_build_r) 0), (4, kL.go (ud ref12_build_r) 0)] 0
theorem ajF (ref12_build_r : (ah × (List ae) × aa × (List (List (List UInt8))) × aA × Unit) -> Option (aO × Unit)) (s : kJ.S.ty.den) : @Eq (Option (kJ.S.ty.den ⊕ kJ.Out)) (kJ.body (fR ref12_build_r) (fI (au Tryz.f50) 0) 0 s).val (mY ref12_build_r s) := by kernel_rfl
theorem ajG (ref12_build_r : (ah × (List ae) × aa × (List (List (List UInt8))) × aA × Unit) -> Option (aO × Unit)) (s : kK.S.ty.den) : @Eq (Option (kK.S.ty.den ⊕ kK.Out)) (kK.body (fR ref12_build_r) (fI (au Tryz.f50) 1) 2 s).val (lh ref12_build_r s) := by kernel_rfl
theorem ajH (ref12_build_r : (ah × (List ae) × aa × (List (List (List UInt8))) × aA × Unit) -> Option (aO × Unit)) (s : kL.S.ty.den) : @Eq (Option (kL.S.ty.den ⊕ kL.Out)) (kL.body (fR ref12_build_r) (fI (au Tryz.f50) 2) 4 s).val (mZ ref12_build_r s) := by kernel_rfl
theorem anQ (ref12_build_r : (ah × (List ae) × aa × (List (List (List UInt8))) × aA × Unit) -> Option (aO × Unit)) (s : mP.ty.den) : @Eq (Option mR.ty.den) (ajd (fR ref12_build_r) Tryz.f50 mP mR s).val (i5 ref12_build_r s) := by kernel_rfl
theorem tZ (ref12_build_r : (ah × (List ae) × aa × (List (List (List UInt8))) × aA × Unit) -> Option (aO × Unit)) (ref12_build_r_ok : EntOK Tryz.prog (kI ref12_build_r)) : aC Tryz.prog (fR ref12_build_r).Γ := ai ⟨anN, aj8, anF, ajE, aqG, ahA, (ref12_build_r_ok.x (by kernel_rfl)), aqH, akD, trivial⟩
theorem alY (ref12_build_r : (ah × (List ae) × aa × (List (List (List UInt8))) × aA × Unit) -> Option (aO × Unit)) (ref12_build_r_ok : EntOK Tryz.prog (kI ref12_build_r)) : lc Tryz.prog (fR ref12_build_r) Tryz.f50.ntmps 0 (fI (au Tryz.f50) 0) :=
  sQ fe (tZ ref12_build_r ref12_build_r_ok) bz (L := kJ) (f := ub ref12_build_r) (b := mY ref12_build_r) (m := []) (fun _ => rfl) (by kernel_rfl) (by kernel_rfl) trivial (by kernel_rfl) (bd _ (by kernel_rfl)) (ajF ref12_build_r)
theorem alZ (ref12_build_r : (ah × (List ae) × aa × (List (List (List UInt8))) × aA × Unit) -> Option (aO × Unit)) (ref12_build_r_ok : EntOK Tryz.prog (kI ref12_build_r)) : lc Tryz.prog (fR ref12_build_r) Tryz.f50.ntmps 2 (fI (au Tryz.f50) 1) :=
  sQ fe (tZ ref12_build_r ref12_build_r_ok) bz (L := kK) (f := uc ref12_build_r) (b := lh ref12_build_r) (m := []) (fun _ => rfl) (by kernel_rfl) (by kernel_rfl) trivial (by kernel_rfl) (bd _ (by kernel_rfl)) (ajG ref12_build_r)
theorem ama (ref12_build_r : (ah × (List ae) × aa × (List (List (List UInt8))) × aA × Unit) -> Option (aO × Unit)) (ref12_build_r_ok : EntOK Tryz.prog (kI ref12_build_r)) : lc Tryz.prog (fR ref12_build_r) Tryz.f50.ntmps 4 (fI (au Tryz.f50) 2) :=
  sQ fe (tZ ref12_build_r ref12_build_r_ok) bz (L := kL) (f := ud ref12_build_r) (b := mZ ref12_build_r) (m := []) (fun _ => rfl) (by kernel_rfl) (by kernel_rfl) trivial (by kernel_rfl) (bd _ (by kernel_rfl)) (ajH ref12_build_r)
theorem ag8 (ref12_build_r : (ah × (List ae) × aa × (List (List (List UInt8))) × aA × Unit) -> Option (aO × Unit)) (ref12_build_r_ok : EntOK Tryz.prog (kI ref12_build_r)) : EntOK Tryz.prog ⟨50, mP, mR, i5 ref12_build_r⟩ :=
  sO (F := (fR ref12_build_r)) fe (tZ ref12_build_r ref12_build_r_ok) bz (fn := Tryz.f50) (m := lp Tryz.f50 [0, 2, 4]) Tryz.func50 (by kernel_rfl) (by kernel_rfl) (by kernel_rfl) ⟨alY ref12_build_r ref12_build_r_ok, alZ ref12_build_r ref12_build_r_ok, ama ref12_build_r ref12_build_r_ok, trivial⟩ (bd _ (by kernel_rfl)) (by kernel_rfl) (anQ ref12_build_r)
theorem wJ : ∀ n, EntOK Tryz.prog ⟨50, mP, mR, kP n⟩
  | 0 => ajc
  | n + 1 => ag8 _ (wJ n)
theorem anR : EntOK Tryz.prog x8 := wJ aco
theorem anS : AX x8 := (anR).x (by kernel_rfl)
def agR : Ent := ⟨13, ⟨[(0, .dat aY)], []⟩, Rv, acI⟩
theorem apl : AX agR := Af0 (l := [agM, x8]) Tryz.func13 ⟨aoW, anS, trivial⟩
def aaG : Ent := ⟨326, ⟨[(0, DI), (1, DI), (2, DI)], []⟩, Qe, acz⟩
theorem agf : AX aaG := Af0 (l := []) Tryz.func326 trivial
def qE : Ent := ⟨322, Qf, Qe, aay⟩
theorem ab4 : AX qE := Af0 (l := [aaG]) Tryz.func322 ⟨agf, trivial⟩
def sf : Ent := ⟨320, Qf, Qf, ac0⟩
theorem ad7 : AX sf := Af0 (l := []) Tryz.func320 trivial
def q9 : Ent := ⟨335, Qf, Qe, aau⟩
theorem abz : AX q9 := Af0 (l := [aaG]) Tryz.func335 ⟨agf, trivial⟩
def se : Ent := ⟨333, Qf, Qf, acy⟩
theorem ad6 : AX se := Af0 (l := []) Tryz.func333 trivial
def aeg : Ent := ⟨349, QJ, Qe, aeV⟩
theorem alc : AX aeg := Af0 (l := [iJ]) Tryz.func349 ⟨kG, trivial⟩
def pj : Ent := ⟨346, Qf, Qe, yq⟩
theorem zv : AX pj := Af0 (l := [aeg]) Tryz.func346 ⟨alc, trivial⟩
def qA : Ent := ⟨344, Qf, Qf, aav⟩
theorem ab0 : AX qA := Af0 (l := []) Tryz.func344 trivial
def abO : Ent := ⟨357, Qj, Qe, abw⟩
theorem ajr : AX abO := Af0 (l := [pF, aaG]) Tryz.func357 ⟨vN, agf, trivial⟩
def po : Ent := ⟨353, Qf, Qe, yu⟩
theorem zy : AX po := Af0 (l := [abO]) Tryz.func353 ⟨ajr, trivial⟩
def qB : Ent := ⟨351, Qf, Qf, aaw⟩
theorem ab1 : AX qB := Af0 (l := []) Tryz.func351 trivial
def nK : Ent := ⟨363, Qf, Qe, wq⟩
theorem ym : AX nK := Af0 (l := [abO]) Tryz.func363 ⟨ajr, trivial⟩
def pf : Ent := ⟨361, Qf, Qf, yk⟩
theorem zq : AX pf := Af0 (l := []) Tryz.func361 trivial
def nP : Ent := ⟨369, Qf, Qe, wv⟩
theorem yA : AX nP := Af0 (l := [aaG, aeg]) Tryz.func369 ⟨agf, alc, trivial⟩
def pt : Ent := ⟨367, Qf, Qf, y7⟩
theorem zA : AX pt := Af0 (l := []) Tryz.func367 trivial
def abN : Ent := ⟨58, Qf, Qe, o6⟩
noncomputable def apS : Fx := ail Acx (avw Acx (dm [qE, sf, q9, se, pj, qA, po, qB, nK, pf, nP, pt]) 110 Tryz.f110 (dm [qE, sf, q9, se, pj, qA, po, qB, nK, pf, nP, pt])) (fun k st => .fail) 0
theorem ajq : AX abN := Afs (F := apS) (fn := Tryz.f58) (m := []) (acd (by kernel_rfl) (agd (F := (ail Acx (dm [qE, sf, q9, se, pj, qA, po, qB, nK, pf, nP, pt]) (fun _ _ => .fail) 0)) fe (ai ⟨ab4, ad7, abz, ad6, zv, ab0, zy, ab1, ym, zq, yA, zA, trivial⟩) bz Tryz.func110 (by kernel_rfl) (by kernel_rfl) (by kernel_rfl)) (ai ⟨ab4, ad7, abz, ad6, zv, ab0, zy, ab1, ym, zq, yA, zA, trivial⟩)) Tryz.func58 trivial
def bL : Ent := ⟨171, QO, Qg, cG⟩
def te : Fx := ail Acx (dm []) (fun _ _ => .fail) 0
theorem tn : EntOK Tryz.prog bL :=
  ap1 (F := te) fe (ai trivial) bz (fn := Tryz.f171) Tryz.func171 (by kernel_rfl) (by kernel_rfl) (by kernel_rfl) (by kernel_rfl) (by kernel_rfl) (fun s => (decide ((List.length ([] : List ae) + List.length s.1) * 40 <= am))) (fun s => (s.1, ())) (fun s => ([], ())) (fun s => List.length s.1) (fun s => rfl) (fun s => by kernel_rfl) (fun s => by kernel_rfl) (fun s h => congrArg (fun l => (l, ())) (List.eq_nil_of_length_eq_zero h).symm)
theorem cQ : AX bL := tn.x (by kernel_rfl)
def fj : Ent := ⟨327, ⟨[(0, .own af 0), (1, DI), (2, .own af 1)], [.arr 58 af false, .arr 58 af false]⟩, ⟨[(0, .own af 2)], [.gone, .arr 58 af false, .arr 58 af false]⟩, mH⟩
def kX : Fx := ail Acx (aus 328 (ovG af) (dm [])) (fun _ _ => .fail) 2
theorem sy : aC Tryz.prog kX.Γ := am4 (awd fe (T := 64) (T2 := 4) (t := af) (by kernel_rfl) (by kernel_rfl) (by kernel_rfl) Tryz.func328 (by kernel_rfl) (by kernel_rfl) (by kernel_rfl) (by kernel_rfl)) (ai trivial)
theorem sz : EntOK Tryz.prog fj :=
  as9 (F := kX) (e := 58) (t := af) (bytes := 40) fe sy bz (by kernel_rfl) (by kernel_rfl) (fn := Tryz.f327) Tryz.func327 (by kernel_rfl) (by kernel_rfl) (by kernel_rfl) (by kernel_rfl) (by kernel_rfl) rfl (fun i xs ys => by kernel_rfl) (fun i xs z ys => by kernel_rfl)
theorem s4 : AX fj := sz.x (by kernel_rfl)
def aiJ : Ent := ⟨325, ⟨[(0, .dat (.list af)), (1, .dat af)], []⟩, Qg, apP⟩
theorem aqQ : AX aiJ := Af0 (l := [tA, bL, fj]) Tryz.func325 ⟨yX, cQ, s4, trivial⟩
def qC : Ent := ⟨319, QH, Qg, ahk⟩
theorem ab2 : AX qC := Af0 (l := [aiJ]) Tryz.func319 ⟨aqQ, trivial⟩
def wk : Ent := ⟨340, QX, ⟨[(0, DI), (1, DI)], []⟩, acS⟩
theorem adK : AX wk := Af0 (l := [iJ, tA]) Tryz.func340 ⟨kG, yX, trivial⟩
def lW : Ent := ⟨342, ⟨[(0, .nils 58 af), (1, DI)], []⟩, Qg, nF⟩
theorem uf : AX lW := Af0 (l := []) Tryz.func342 trivial
def jJ : Lp := Lp1 ⟨[(0, .dat (.list (.list af))), (3, DI), (9, .dat (.list (.list af))), (10, DI), (11, DI)], []⟩ 0 ⟨[(0, .dat (.list (.list af))), (3, DI)], []⟩
def jK : Lp := Lp1 ⟨[(6, .own af 0), (25, .dat (.list (.list af))), (26, DI), (27, DI)], QU⟩ 2 ⟨[(6, .own af 0)], QU⟩
def kT : Ent := ⟨341, ⟨[(0, .dat (.list (.list af)))], []⟩, Qg, mG⟩
def cJ : Fx := AFl [lW] [(0, jJ.go lu 0), (2, jK.go lw 0)] 0
theorem fo : aC Tryz.prog (cJ).Γ := ai ⟨uf, trivial⟩
theorem rQ : LA cJ Tryz.f341 0 0 := Als (L := jJ) (b := ln) (m := []) fo trivial
theorem rR : LA cJ Tryz.f341 2 1 := Als (L := jK) (b := lq) (m := []) fo trivial
theorem sx : AX kT := Afs (F := cJ) (fn := Tryz.f341) (m := lp Tryz.f341 [0, 2]) fo Tryz.func341 ⟨rQ, rR, trivial⟩
def rH : Ent := ⟨339, QX, Qg, yV⟩
theorem vk : AX rH := Af0 (l := [wk, kT]) Tryz.func339 ⟨adK, sx, trivial⟩

end D
open Go Go.X Go.Proofs D
namespace D
def aiI : Ent := ⟨338, Rl, Qg, apO⟩
theorem aqP : AX aiI := Af0 (l := [vm, rH]) Tryz.func338 ⟨zG, vk, trivial⟩
def qy : Ent := ⟨332, QH, Qg, ahj⟩
theorem abx : AX qy := Af0 (l := [aiI]) Tryz.func332 ⟨aqP, trivial⟩
def ph : Ent := ⟨343, QH, Qg, aeU⟩
theorem zt : AX ph := Af0 (l := [rH]) Tryz.func343 ⟨vk, trivial⟩
def aew : Ent := ⟨360, QX, ⟨[(0, .clip af)], []⟩, al2⟩
theorem aon : AX aew := Af0 (l := [wk]) Tryz.func360 ⟨adK, trivial⟩
def ae2 : Lp := Lp1 ⟨[(1, DS), (2, DS), (7, .own af 0), (15, DI), (16, DI)], QU⟩ 0 ⟨[(7, .own af 0)], QU⟩
def ai7 : Ent := ⟨358, ⟨[(0, .dat (.list af)), (1, DS), (2, DS)], []⟩, Qg, apC⟩
def abU : Fx := AFl [eL, uW, bL, aew] [(0, ae2.go aju 0)] 0
theorem ajt : aC Tryz.prog (abU).Γ := ai ⟨gk, aa6, cQ, aon, trivial⟩
theorem aoK : LA abU Tryz.f358 0 0 := Als (L := ae2) (b := ajs) (m := []) ajt trivial
theorem aq0 : AX ai7 := Afs (F := abU) (fn := Tryz.f358) (m := lp Tryz.f358 [0]) ajt Tryz.func358 ⟨aoK, trivial⟩
def abe : Lp := Lp1 ⟨[(0, .dat (.list af)), (1, .dat (.list af)), (5, .own af 0)], QU⟩ 0 ⟨[(0, .dat (.list af)), (1, .dat (.list af)), (5, .own af 0)], QU⟩
def aex : Ent := ⟨39, RA, Qg, al3⟩
def xP : Fx := AFl [] [(0, abe.go afF 0)] 0
theorem afE : aC Tryz.prog (xP).Γ := ai trivial
theorem amh : LA xP Tryz.f39 0 0 := Als (L := abe) (b := afD) (m := []) afE trivial
theorem aoo : AX aex := Afs (F := xP) (fn := Tryz.f39) (m := lp Tryz.f39 [0]) afE Tryz.func39 ⟨amh, trivial⟩
def kR : Ent := ⟨356, QH, Qg, wo⟩
theorem su : AX kR := Af0 (l := [eL, rH, ai7, aex]) Tryz.func356 ⟨gk, vk, aq0, aoo, trivial⟩
def pm : Ent := ⟨350, QH, Qg, aeW⟩
theorem zw : AX pm := Af0 (l := [eL, rH, kR]) Tryz.func350 ⟨gk, vk, su, trivial⟩
def vu : Lp := Lp1 ⟨[(2, .ptr 0 aj 0 []), (5, .own af 1), (10, DI), (11, DI)], [.box 215 aj (.dat aj), .arr 58 af false]⟩ 0 ⟨[(5, .own af 0)], QU⟩
def nN : Ent := ⟨366, QH, Qg, ad8⟩
def so : Fx := AFl [pD, bL] [(0, vu.go y5 0)] 0
theorem yz : aC Tryz.prog (so).Γ := ai ⟨sX, cQ, trivial⟩
theorem agx : LA so Tryz.f366 0 0 := Als (L := vu) (b := yx) (m := []) yz trivial
theorem y6 : AX nN := Afs (F := so) (fn := Tryz.f366) (m := lp Tryz.f366 [0]) yz Tryz.func366 ⟨agx, trivial⟩
def abM : Ent := ⟨61, ⟨[(0, .dat (.list af)), (1, .dat aj)], []⟩, QO, ak1⟩
noncomputable def apQ : Fx := ail Acx (avw Acx (dm [qC, qy, ph, kR, pm, nN]) 110 Tryz.f110 (dm [qC, qy, ph, kR, pm, nN])) (fun k st => .fail) 0
theorem ajp : AX abM := Afs (F := apQ) (fn := Tryz.f61) (m := []) (acd (by kernel_rfl) (agd (F := (ail Acx (dm [qC, qy, ph, kR, pm, nN]) (fun _ _ => .fail) 0)) fe (ai ⟨ab2, abx, zt, su, zw, y6, trivial⟩) bz Tryz.func110 (by kernel_rfl) (by kernel_rfl) (by kernel_rfl)) (ai ⟨ab2, abx, zt, su, zw, y6, trivial⟩)) Tryz.func61 trivial
end D
