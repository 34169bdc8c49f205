/- Entries, by program. -/
import Derived.Test.YtddbnkpkjnnggaaGreatDoorL
import Derived.Test.YtddbnkpkjnnggaaGreatDoorD
import Derived.Test.YtddbnkpkjnnggaaGreatDoorChecked
set_option linter.unusedVariables false
set_option maxRecDepth 100000
open Go Go.X Go.Proofs D
namespace D
def Acx : Cx := ⟨[(3, ⟨(.int .i64), 0, [], 8, false, false, false, []⟩), (4, ⟨.bool, 0, [], 1, false, false, false, []⟩), (5, ⟨(.int .u8), 0, [], 1, false, false, false, []⟩), (9, ⟨.str, 0, [], 16, false, false, false, []⟩), (20, ⟨.opq, 0, [], 16, false, false, true, []⟩), (21, ⟨(.int .i32), 0, [], 4, false, false, false, []⟩), (28, ⟨(.list (.pair (.int .u8) (.pair (.int .u8) (.pair (.int .u8) (.pair (.int .u8) .unit))))), 69, [], 4, false, false, false, []⟩), (32, ⟨tapi_Use, 0, [3, 3], 16, true, false, false, []⟩), (34, ⟨tapi_Hold, 0, [3, 9, 32], 40, true, false, false, []⟩), (37, ⟨(.list tapi_Slot), 102, [], 136, false, false, false, []⟩), (39, ⟨tapi_Pool, 0, [37], 24, false, false, false, []⟩), (41, ⟨tapi_Shape, 0, [3, 3, 3], 24, true, false, false, []⟩), (43, ⟨tapi_Tree, 0, [39, 3, 41], 56, false, false, false, []⟩), (44, ⟨(.list tapi_Quota), 66, [], 32, false, false, false, []⟩), (45, ⟨(.list tapi_Hold), 34, [], 40, false, false, false, []⟩), (46, ⟨(.list tapi_Msg), 77, [], 112, false, false, false, []⟩), (48, ⟨tlaw22_given, 0, [43, 44, 45, 46], 128, false, false, false, []⟩), (51, ⟨(.int .i64), 0, [], 8, false, false, false, []⟩), (56, ⟨tref22_Decided, 0, [4, 3, 51], 24, true, false, false, []⟩), (66, ⟨tapi_Quota, 0, [9, 32], 32, true, false, false, []⟩), (69, ⟨(.pair (.int .u8) (.pair (.int .u8) (.pair (.int .u8) (.pair (.int .u8) .unit)))), 0, [5, 5, 5, 5], 4, false, true, false, []⟩), (75, ⟨tapi_Span, 0, [9, 9], 32, true, false, false, []⟩), (77, ⟨tapi_Msg, 0, [3, 9, 9, 75, 9, 9, 3], 112, true, false, false, []⟩), (78, ⟨.opq, 0, [], 8, false, true, false, []⟩), (81, ⟨(.list tapi_Pair), 127, [], 40, false, false, false, []⟩), (95, ⟨(.list (.int .i64)), 3, [], 8, false, false, false, []⟩), (97, ⟨(.list .str), 9, [], 16, false, false, false, []⟩), (98, ⟨(.list tapi_Sum), 164, [], 32, false, false, false, []⟩), (100, ⟨tapi_Node, 0, [81, 97, 95, 98, 46], 120, false, false, false, []⟩), (102, ⟨tapi_Slot, 0, [4, 4, 3, 100], 136, false, false, false, []⟩), (115, ⟨.opq, 0, [], 8, false, true, false, []⟩), (117, ⟨.opq, 0, [], 8, false, true, false, []⟩), (118, ⟨.opq, 0, [], 8, false, true, false, []⟩), (119, ⟨.opq, 0, [], 8, false, false, false, []⟩), (121, ⟨ttree_scanner, 0, [39, 51], 32, false, false, false, []⟩), (122, ⟨.opq, 0, [], 8, false, true, false, []⟩), (123, ⟨.opq, 0, [], 8, false, true, false, []⟩), (125, ⟨(.list tapi_Span), 75, [], 32, false, false, false, []⟩), (127, ⟨tapi_Pair, 0, [9, 9, 3], 40, true, false, false, []⟩), (157, ⟨(.list (.list tapi_Hold)), 45, [], 24, false, false, false, []⟩), (159, ⟨.opq, 0, [], 8, false, true, false, []⟩), (160, ⟨(.list tapi_Hold), 34, [], 40, false, false, false, []⟩), (162, ⟨tapi_Use, 0, [3, 3], 16, true, false, false, []⟩), (164, ⟨tapi_Sum, 0, [162, 162], 32, true, false, false, []⟩), (179, ⟨.opq, 0, [], 8, false, true, false, []⟩), (183, ⟨.opq, 0, [], 16, false, false, true, []⟩), (191, ⟨.opq, 0, [], 8, false, true, false, []⟩), (194, ⟨.opq, 0, [], 8, false, false, false, []⟩), (206, ⟨tbound_reader, 0, [39], 24, false, false, false, []⟩), (208, ⟨(.list tapi_Span), 75, [], 32, false, false, false, []⟩), (209, ⟨(.list (.int .u8)), 5, [], 1, false, false, false, []⟩), (220, ⟨tapi_Msg, 0, [3, 9, 9, 75, 9, 9, 3], 112, true, false, false, [("downspout/msg.apply", 331), ("downspout/msg.bare", 332), ("downspout/msg.valid", 334)]⟩), (221, ⟨tapi_Msg, 0, [3, 9, 9, 75, 9, 9, 3], 112, true, false, false, [("downspout/msg.apply", 344), ("downspout/msg.bare", 345), ("downspout/msg.valid", 347)]⟩), (222, ⟨tapi_Msg, 0, [3, 9, 9, 75, 9, 9, 3], 112, true, false, false, [("downspout/msg.apply", 354), ("downspout/msg.bare", 355), ("downspout/msg.valid", 357)]⟩), (223, ⟨tapi_Msg, 0, [3, 9, 9, 75, 9, 9, 3], 112, true, false, false, [("downspout/msg.apply", 361), ("downspout/msg.bare", 362), ("downspout/msg.valid", 364)]⟩), (224, ⟨tapi_Msg, 0, [3, 9, 9, 75, 9, 9, 3], 112, true, false, false, [("downspout/msg.apply", 367), ("downspout/msg.bare", 371), ("downspout/msg.valid", 373)]⟩), (225, ⟨tapi_Msg, 0, [3, 9, 9, 75, 9, 9, 3], 112, true, false, false, [("downspout/msg.apply", 376), ("downspout/msg.bare", 377), ("downspout/msg.valid", 379)]⟩), (237, ⟨.opq, 0, [], 8, false, true, false, []⟩), (238, ⟨.opq, 0, [], 8, false, false, false, []⟩), (240, ⟨tbound_bounds, 0, [164], 32, true, false, false, []⟩), (242, ⟨(.list (.list tapi_Span)), 208, [], 24, false, false, false, []⟩), (243, ⟨.opq, 0, [], 8, false, true, false, []⟩), (244, ⟨.opq, 0, [], 8, false, true, false, []⟩), (247, ⟨.opq, 0, [], 8, false, true, false, []⟩), (248, ⟨.opq, 0, [], 8, false, true, false, []⟩), (253, ⟨tapi_Place, 0, [9, 3, 3, 9], 48, true, false, false, []⟩), (267, ⟨.opq, 0, [], 8, false, true, false, []⟩), (270, ⟨.str, 0, [], 16, false, false, false, []⟩), (282, ⟨.opq, 0, [], 8, false, true, false, []⟩), (283, ⟨.opq, 0, [], 8, false, false, false, []⟩), (284, ⟨.opq, 0, [], 8, false, true, false, []⟩), (285, ⟨.opq, 0, [], 8, false, true, false, []⟩), (289, ⟨.opq, 0, [], 8, false, true, false, []⟩), (290, ⟨.opq, 0, [], 8, false, false, false, []⟩), (292, ⟨(.pair .str .unit), 0, [9], 16, true, false, false, []⟩), (294, ⟨tpath_place, 0, [292, 253], 64, true, false, false, []⟩), (303, ⟨.opq, 0, [], 8, false, true, false, []⟩), (305, ⟨(.list .str), 270, [], 16, false, false, false, []⟩), (307, ⟨.opq, 0, [], 8, false, true, false, []⟩), (309, ⟨.opq, 0, [], 8, false, true, false, []⟩), (313, ⟨(.int .u64), 0, [], 8, false, false, false, []⟩), (315, ⟨.opq, 0, [], 8, false, true, false, []⟩), (325, ⟨(.int .u32), 0, [], 4, false, false, false, []⟩), (328, ⟨.opq, 0, [], 8, false, false, false, []⟩), (332, ⟨(.int .i64), 0, [], 8, false, false, false, []⟩), (340, ⟨(.int .u64), 0, [], 8, false, false, false, []⟩), (350, ⟨.opq, 0, [], 8, false, false, false, []⟩), (351, ⟨(.int .u64), 0, [], 8, false, false, false, []⟩), (355, ⟨.opq, 0, [], 8, false, false, false, []⟩), (360, ⟨.opq, 0, [], 8, false, false, false, []⟩), (364, ⟨(.pair (.int .u8) (.pair (.int .u8) .unit)), 0, [5, 5], 2, true, false, false, []⟩), (365, ⟨(.pair (.pair (.int .u8) (.pair (.int .u8) .unit)) (.pair (.pair (.int .u8) (.pair (.int .u8) .unit)) (.pair (.pair (.int .u8) (.pair (.int .u8) .unit)) (.pair (.pair (.int .u8) (.pair (.int .u8) .unit)) (.pair (.pair (.int .u8) (.pair (.int .u8) .unit)) (.pair (.pair (.int .u8) (.pair (.int .u8) .unit)) (.pair (.pair (.int .u8) (.pair (.int .u8) .unit)) (.pair (.pair (.int .u8) (.pair (.int .u8) .unit)) (.pair (.pair (.int .u8) (.pair (.int .u8) .unit)) (.pair (.pair (.int .u8) (.pair (.int .u8) .unit)) (.pair (.pair (.int .u8) (.pair (.int .u8) .unit)) (.pair (.pair (.int .u8) (.pair (.int .u8) .unit)) (.pair (.pair (.int .u8) (.pair (.int .u8) .unit)) (.pair (.pair (.int .u8) (.pair (.int .u8) .unit)) (.pair (.pair (.int .u8) (.pair (.int .u8) .unit)) (.pair (.pair (.int .u8) (.pair (.int .u8) .unit)) .unit)))))))))))))))), 0, [364, 364, 364, 364, 364, 364, 364, 364, 364, 364, 364, 364, 364, 364, 364, 364], 32, false, true, false, []⟩), (389, ⟨(.list (.list tapi_Pair)), 81, [], 24, false, false, false, []⟩)], rawIn [(311, 0), (305, 0), (304, 0), (237, 0), (282, 0), (267, 0), (139, 0), (342, 0), (341, 0), (199, 0), (197, 0), (301, 0), (286, 0), (285, 0), (284, 0), (283, 0), (281, 0), (280, 0), (279, 0), (235, 0), (258, 0), (343, 0), (143, 0), (353, 0), (339, 0), (79, 0), (340, 0), (340, 1), (339, 0), (339, 2), (74, 0)]⟩
noncomputable instance Aenv : Env := ⟨fun Y => bif Nat.beq Y 1012500 then some (rcAt Tryz.f125 0) else bif Nat.beq Y 1013700 then some (rcAt Tryz.f137 0) else none, fun _ => []⟩
theorem Atab : TabOK Tryz.prog Acx := tab_soundE (by kernel_rfl)
theorem Amixed : Tryz.prog.follows .mixedOrders = true := by kernel_rfl
def AF0 (l : List Ent) : Fx := mkFx Acx (lookupG l) (fun k st => .fail) 0
abbrev AX (E : Ent) : Prop := EntX Tryz.prog E
theorem Afk {F : Fx} {f : Nat} {S Z : Shape} {g : S.ty.den → Option Z.ty.den} {fn : Func} {m : List (Nat × Code)} (hG : GSound Tryz.prog F.Γ) (hf : Tryz.prog.funcs[f]? = some fn) (hin : LamsOK Tryz.prog F fn.ntmps m) (hc : F.cx = Acx := by kernel_rfl) (hb : fn.body = some (bodyOf fn) := by kernel_rfl) (hok : fnOk fn S Z = true := by kernel_rfl) (hm2 : loopsOf (bodyOf fn) 0 = m := by kernel_rfl) (hrf : hasRf (bodyOf fn) = false := by kernel_rfl) (hmF : F.m = S.objs.length := by kernel_rfl) (hg : ∀ s, (evFn F fn S Z s).val = g s := by intro s; kernel_rfl) : EntOK Tryz.prog ⟨f, S, Z, g⟩ :=
  fun_sound (F := F) (hc ▸ Atab) hG Amixed hf hb hok hm2 hin (rfOK_no _ hrf) hmF hg
theorem Afs {F : Fx} {f : Nat} {S Z : Shape} {g : S.ty.den → Option Z.ty.den} {fn : Func} {m : List (Nat × Code)} (hG : GSound Tryz.prog F.Γ) (hf : Tryz.prog.funcs[f]? = some fn) (hin : LamsOK Tryz.prog F fn.ntmps m) (hc : F.cx = Acx := by kernel_rfl) (hb : fn.body = some (bodyOf fn) := by kernel_rfl) (hok : fnOk fn S Z = true := by kernel_rfl) (hm2 : loopsOf (bodyOf fn) 0 = m := by kernel_rfl) (hrf : hasRf (bodyOf fn) = false := by kernel_rfl) (hmF : F.m = S.objs.length := by kernel_rfl) (hx : isRnd f = false := by kernel_rfl) (hg : ∀ s, (evFn F fn S Z s).val = g s := by intro s; kernel_rfl) : EntX Tryz.prog ⟨f, S, Z, g⟩ :=
  (Afk hG hf hin hc hb hok hm2 hrf hmF hg).x hx
theorem Als {F : Fx} {nt : Nat} {L : Lp} {c : Code} {k : Nat} {b : L.S.ty.den → Option (L.S.ty.den ⊕ L.Out)} {m : List (Nat × Code)} (hG : GSound Tryz.prog F.Γ) (hin : LamsOK Tryz.prog F nt m) (hc : F.cx = Acx := by kernel_rfl) (hΛ : F.Λ k = L.go (fun s => loopO b s) F.m := by kernel_rfl) (hm2 : loopsOf c k = m := by kernel_rfl) (hc2 : codeOk nt c = true := by kernel_rfl) (hrf : hasRf c = false := by kernel_rfl) (hb : ∀ s, (L.body F c k s).val = b s := by intro s; kernel_rfl) : LamOK Tryz.prog F nt k c :=
  lam_sound (F := F) (f := fun s => loopO b s) (hc ▸ Atab) hG Amixed (fun _ => rfl) hΛ hm2 hin hc2 (rfOK_no _ hrf) hb
def AS_tree_rightC1 : Shape := ⟨[(0, (.dat (.int .i64))), (1, (.dat (.int .i64))), (2, (.dat (.int .i64)))], []⟩
def AZ_tree_rightC1 : Shape := ⟨[(0, (.dat .bool))], []⟩
def AE_tree_rightC1 : Ent := ⟨107, AS_tree_rightC1, AZ_tree_rightC1, tree_rightC1⟩
def AF_tree_rightC1 : Fx := AF0 []
theorem tree_rightC1_ox : AX AE_tree_rightC1 := Afs (F := AF_tree_rightC1) (fn := Tryz.f107) (m := []) (ents_sound trivial) Tryz.func107 trivial
def AS_tree_right : Shape := ⟨[(0, (.dat tapi_Shape))], []⟩
def AZ_tree_right : Shape := ⟨[(0, (.dat .bool))], []⟩
def AE_tree_right : Ent := ⟨61, AS_tree_right, AZ_tree_right, tree_right⟩
def AF_tree_right : Fx := AF0 [AE_tree_rightC1]
theorem tree_right_ox : AX AE_tree_right := Afs (F := AF_tree_right) (fn := Tryz.f61) (m := []) (ents_sound ⟨(tree_rightC1_ox), trivial⟩) Tryz.func61 trivial
def AS_pool_used : Shape := ⟨[(0, (.dat tapi_Pool)), (1, (.dat (.int .i64)))], []⟩
def AZ_pool_used : Shape := ⟨[(0, (.dat .bool))], []⟩
def AE_pool_used : Ent := ⟨94, AS_pool_used, AZ_pool_used, pool_used⟩
def AF_pool_used : Fx := AF0 []
theorem pool_used_ox : AX AE_pool_used := Afs (F := AF_pool_used) (fn := Tryz.f94) (m := []) (ents_sound trivial) Tryz.func94 trivial
def AS_pool_AddC1 : Shape := ⟨[(0, (.dat tapi_Slot))], []⟩
def AZ_pool_AddC1 : Shape := ⟨[(0, (.dat .bool))], []⟩
def AE_pool_AddC1 : Ent := ⟨109, AS_pool_AddC1, AZ_pool_AddC1, pool_AddC1⟩
def AF_pool_AddC1 : Fx := AF0 []
theorem pool_AddC1_ox : AX AE_pool_AddC1 := Afs (F := AF_pool_AddC1) (fn := Tryz.f109) (m := []) (ents_sound trivial) Tryz.func109 trivial
def AL_slices_IndexFunc_api_Slot_api_Slot_0 : Lp := ⟨⟨[(0, (.dat (.list tapi_Slot))), (1, (.fn 109 [] [])), (7, (.dat (.int .i64))), (8, (.dat (.int .i64)))], []⟩, .ret, ⟨[(4, (.dat (.int .i64)))], []⟩, (.exit 0), ⟨[], []⟩⟩
def AS_slices_IndexFunc_api_Slot_api_Slot : Shape := ⟨[(0, (.dat (.list tapi_Slot))), (1, (.fn 109 [] []))], []⟩
def AZ_slices_IndexFunc_api_Slot_api_Slot : Shape := ⟨[(0, (.dat (.int .i64)))], []⟩
def AE_slices_IndexFunc_api_Slot_api_Slot : Ent := ⟨108, AS_slices_IndexFunc_api_Slot_api_Slot, AZ_slices_IndexFunc_api_Slot_api_Slot, slices_IndexFunc_api_Slot_api_Slot⟩
def AF_slices_IndexFunc_api_Slot_api_Slot : Fx := mkFx Acx (lookupG [AE_pool_AddC1]) (fun k st => bif Nat.beq k 0 then AL_slices_IndexFunc_api_Slot_api_Slot_0.go (slices_IndexFunc_api_Slot_api_Slot_l0) 0 st else .fail) 0
theorem slices_IndexFunc_api_Slot_api_Slot_hG : GSound Tryz.prog (AF_slices_IndexFunc_api_Slot_api_Slot).Γ := ents_sound ⟨(pool_AddC1_ox), trivial⟩
theorem slices_IndexFunc_api_Slot_api_Slot_la0 : LamOK Tryz.prog (AF_slices_IndexFunc_api_Slot_api_Slot) Tryz.f108.ntmps 0 (loopAt (bodyOf Tryz.f108) 0) := Als (L := AL_slices_IndexFunc_api_Slot_api_Slot_0) (b := slices_IndexFunc_api_Slot_api_Slot_b0) (m := []) slices_IndexFunc_api_Slot_api_Slot_hG trivial
theorem slices_IndexFunc_api_Slot_api_Slot_ox : AX AE_slices_IndexFunc_api_Slot_api_Slot := Afs (F := AF_slices_IndexFunc_api_Slot_api_Slot) (fn := Tryz.f108) (m := [(0, loopAt (bodyOf Tryz.f108) 0)]) slices_IndexFunc_api_Slot_api_Slot_hG Tryz.func108 ⟨slices_IndexFunc_api_Slot_api_Slot_la0, trivial⟩
def AS_pool_clone : Shape := ⟨[(0, (.dat tapi_Pool))], []⟩
def AZ_pool_clone : Shape := ⟨[(0, (.agg [(.own tapi_Slot 0)]))], [.arr 102 tapi_Slot false]⟩
def AE_pool_clone : Ent := ⟨110, AS_pool_clone, AZ_pool_clone, pool_clone⟩
def AF_pool_clone : Fx := AF0 []
theorem pool_clone_ox : AX AE_pool_clone := Afs (F := AF_pool_clone) (fn := Tryz.f110) (m := []) (ents_sound trivial) Tryz.func110 trivial
def AL_pool_Add_0 : Lp := ⟨⟨[(2, (.ptr 0 tapi_Pool 0 [])), (3, (.ptr 1 tapi_Node 0 [])), (4, (.ptr 2 tapi_Pool 0 [])), (14, (.dat (.list (.int .i64)))), (15, (.dat (.int .i64))), (16, (.dat (.int .i64)))], [.box 39 tapi_Pool (.dat tapi_Pool), .box 100 tapi_Node (.dat tapi_Node), .box 39 tapi_Pool (.agg [(.dat (.list tapi_Slot))])]⟩, .ret, ⟨[(4, (.ptr 0 tapi_Pool 0 [])), (5, (.dat (.int .i64))), (6, (.dat (.int .i64)))], [.box 39 tapi_Pool (.dat tapi_Pool)]⟩, (.exit 0), ⟨[(2, (.ptr 0 tapi_Pool 0 [])), (3, (.ptr 1 tapi_Node 0 [])), (4, (.ptr 2 tapi_Pool 0 []))], [.box 39 tapi_Pool (.dat tapi_Pool), .box 100 tapi_Node (.dat tapi_Node), .box 39 tapi_Pool (.agg [(.dat (.list tapi_Slot))])]⟩⟩
def AL_pool_Add_1 : Lp := ⟨⟨[(4, (.ptr 0 tapi_Pool 0 [])), (9, (.dat (.int .i64))), (10, (.ptr 1 tapi_Pool 0 [])), (57, (.dat (.list (.int .i64)))), (58, (.dat (.int .i64))), (59, (.dat (.int .i64)))], [.box 39 tapi_Pool (.agg [(.dat (.list tapi_Slot))]), .box 39 tapi_Pool (.agg [(.own tapi_Slot 2)]), .arr 102 tapi_Slot false]⟩, (.exit 2), ⟨[(4, (.ptr 0 tapi_Pool 0 [])), (9, (.dat (.int .i64))), (10, (.ptr 1 tapi_Pool 0 []))], [.box 39 tapi_Pool (.agg [(.dat (.list tapi_Slot))]), .box 39 tapi_Pool (.agg [(.own tapi_Slot 2)]), .arr 102 tapi_Slot false]⟩, (.exit 80000002), ⟨[], []⟩⟩
def AS_pool_Add : Shape := ⟨[(0, (.dat tapi_Pool)), (1, (.dat tapi_Node))], []⟩
def AZ_pool_Add : Shape := ⟨[(0, (.dat tapi_Pool)), (1, (.dat (.int .i64))), (2, (.dat (.int .i64)))], []⟩
def AE_pool_Add : Ent := ⟨62, AS_pool_Add, AZ_pool_Add, pool_Add⟩
def AF_pool_Add : Fx := mkFx Acx (lookupG [AE_pool_used, AE_slices_IndexFunc_api_Slot_api_Slot, AE_pool_clone]) (fun k st => bif Nat.beq k 0 then AL_pool_Add_0.go (pool_Add_l0) 0 st else bif Nat.beq k 2 then AL_pool_Add_1.go (pool_Add_l1) 0 st else .fail) 0
theorem pool_Add_hG : GSound Tryz.prog (AF_pool_Add).Γ := ents_sound ⟨(pool_used_ox), (slices_IndexFunc_api_Slot_api_Slot_ox), (pool_clone_ox), trivial⟩
theorem pool_Add_la0 : LamOK Tryz.prog (AF_pool_Add) Tryz.f62.ntmps 0 (loopAt (bodyOf Tryz.f62) 0) := Als (L := AL_pool_Add_0) (b := pool_Add_b0) (m := []) pool_Add_hG trivial
theorem pool_Add_la1 : LamOK Tryz.prog (AF_pool_Add) Tryz.f62.ntmps 2 (loopAt (bodyOf Tryz.f62) 1) := Als (L := AL_pool_Add_1) (b := pool_Add_b1) (m := []) pool_Add_hG trivial
theorem pool_Add_ox : AX AE_pool_Add := Afs (F := AF_pool_Add) (fn := Tryz.f62) (m := [(0, loopAt (bodyOf Tryz.f62) 0), (2, loopAt (bodyOf Tryz.f62) 1)]) pool_Add_hG Tryz.func62 ⟨pool_Add_la0, pool_Add_la1, trivial⟩
def AS_tree_New : Shape := ⟨[(0, (.dat tapi_Shape))], []⟩
def AZ_tree_New : Shape := ⟨[(0, (.dat tapi_Tree)), (1, (.dat (.int .i64)))], []⟩
def AE_tree_New : Ent := ⟨33, AS_tree_New, AZ_tree_New, tree_New⟩
def AF_tree_New : Fx := AF0 [AE_tree_right, AE_pool_Add]
theorem tree_New_ok : EntOK Tryz.prog AE_tree_New := Afk (F := AF_tree_New) (fn := Tryz.f33) (m := []) (ents_sound ⟨(tree_right_ox), (pool_Add_ox), trivial⟩) Tryz.func33 trivial
def AS_msg_in : Shape := ⟨[(0, (.dat (.int .i64))), (1, (.dat (.int .i64))), (2, (.dat (.int .i64)))], []⟩
def AZ_msg_in : Shape := ⟨[(0, (.dat .bool))], []⟩
def AE_msg_in : Ent := ⟨338, AS_msg_in, AZ_msg_in, msg_in⟩
def AF_msg_in : Fx := AF0 []
theorem msg_in_ox : AX AE_msg_in := Afs (F := AF_msg_in) (fn := Tryz.f338) (m := []) (ents_sound trivial) Tryz.func338 trivial
def AS_msg_put_valid : Shape := ⟨[(0, (.dat tapi_Msg))], []⟩
def AZ_msg_put_valid : Shape := ⟨[(0, (.dat .bool))], []⟩
def AE_msg_put_valid : Ent := ⟨334, AS_msg_put_valid, AZ_msg_put_valid, msg_put_valid⟩
def AF_msg_put_valid : Fx := AF0 [AE_msg_in]
theorem msg_put_valid_ox : AX AE_msg_put_valid := Afs (F := AF_msg_put_valid) (fn := Tryz.f334) (m := []) (ents_sound ⟨(msg_in_ox), trivial⟩) Tryz.func334 trivial
def AS_msg_put_bare : Shape := ⟨[(0, (.dat tapi_Msg))], []⟩
def AZ_msg_put_bare : Shape := ⟨[(0, (.dat tapi_Msg))], []⟩
def AE_msg_put_bare : Ent := ⟨332, AS_msg_put_bare, AZ_msg_put_bare, msg_put_bare⟩
def AF_msg_put_bare : Fx := AF0 []
theorem msg_put_bare_ox : AX AE_msg_put_bare := Afs (F := AF_msg_put_bare) (fn := Tryz.f332) (m := []) (ents_sound trivial) Tryz.func332 trivial
def AS_msg_del_valid : Shape := ⟨[(0, (.dat tapi_Msg))], []⟩
def AZ_msg_del_valid : Shape := ⟨[(0, (.dat .bool))], []⟩
def AE_msg_del_valid : Ent := ⟨347, AS_msg_del_valid, AZ_msg_del_valid, msg_del_valid⟩
def AF_msg_del_valid : Fx := AF0 [AE_msg_in]
theorem msg_del_valid_ox : AX AE_msg_del_valid := Afs (F := AF_msg_del_valid) (fn := Tryz.f347) (m := []) (ents_sound ⟨(msg_in_ox), trivial⟩) Tryz.func347 trivial
def AS_msg_del_bare : Shape := ⟨[(0, (.dat tapi_Msg))], []⟩
def AZ_msg_del_bare : Shape := ⟨[(0, (.dat tapi_Msg))], []⟩
def AE_msg_del_bare : Ent := ⟨345, AS_msg_del_bare, AZ_msg_del_bare, msg_del_bare⟩
def AF_msg_del_bare : Fx := AF0 []
theorem msg_del_bare_ox : AX AE_msg_del_bare := Afs (F := AF_msg_del_bare) (fn := Tryz.f345) (m := []) (ents_sound trivial) Tryz.func345 trivial
def AS_span_Empty : Shape := ⟨[(0, (.dat tapi_Span))], []⟩
def AZ_span_Empty : Shape := ⟨[(0, (.dat .bool))], []⟩
def AE_span_Empty : Ent := ⟨141, AS_span_Empty, AZ_span_Empty, span_Empty⟩
def AF_span_Empty : Fx := AF0 []
theorem span_Empty_ox : AX AE_span_Empty := Afs (F := AF_span_Empty) (fn := Tryz.f141) (m := []) (ents_sound trivial) Tryz.func141 trivial
def AS_msg_ends : Shape := ⟨[(0, (.dat tapi_Span))], []⟩
def AZ_msg_ends : Shape := ⟨[(0, (.dat .bool))], []⟩
def AE_msg_ends : Ent := ⟨360, AS_msg_ends, AZ_msg_ends, msg_ends⟩
def AF_msg_ends : Fx := AF0 [AE_span_Empty]
theorem msg_ends_ox : AX AE_msg_ends := Afs (F := AF_msg_ends) (fn := Tryz.f360) (m := []) (ents_sound ⟨(span_Empty_ox), trivial⟩) Tryz.func360 trivial
def AS_msg_drop_valid : Shape := ⟨[(0, (.dat tapi_Msg))], []⟩
def AZ_msg_drop_valid : Shape := ⟨[(0, (.dat .bool))], []⟩
def AE_msg_drop_valid : Ent := ⟨357, AS_msg_drop_valid, AZ_msg_drop_valid, msg_drop_valid⟩
def AF_msg_drop_valid : Fx := AF0 [AE_msg_ends]
theorem msg_drop_valid_ox : AX AE_msg_drop_valid := Afs (F := AF_msg_drop_valid) (fn := Tryz.f357) (m := []) (ents_sound ⟨(msg_ends_ox), trivial⟩) Tryz.func357 trivial
def AS_msg_drop_bare : Shape := ⟨[(0, (.dat tapi_Msg))], []⟩
def AZ_msg_drop_bare : Shape := ⟨[(0, (.dat tapi_Msg))], []⟩
def AE_msg_drop_bare : Ent := ⟨355, AS_msg_drop_bare, AZ_msg_drop_bare, msg_drop_bare⟩
def AF_msg_drop_bare : Fx := AF0 []
theorem msg_drop_bare_ox : AX AE_msg_drop_bare := Afs (F := AF_msg_drop_bare) (fn := Tryz.f355) (m := []) (ents_sound trivial) Tryz.func355 trivial
def AS_internal_stringslite_HasPrefix : Shape := ⟨[(0, (.dat .str)), (1, (.dat .str))], []⟩
def AZ_internal_stringslite_HasPrefix : Shape := ⟨[(0, (.dat .bool))], []⟩
def AE_internal_stringslite_HasPrefix : Ent := ⟨212, AS_internal_stringslite_HasPrefix, AZ_internal_stringslite_HasPrefix, internal_stringslite_HasPrefix⟩
def AF_internal_stringslite_HasPrefix : Fx := AF0 []
theorem internal_stringslite_HasPrefix_ox : AX AE_internal_stringslite_HasPrefix := Afs (F := AF_internal_stringslite_HasPrefix) (fn := Tryz.f212) (m := []) (ents_sound trivial) Tryz.func212 trivial
def AS_strings_HasPrefix : Shape := ⟨[(0, (.dat .str)), (1, (.dat .str))], []⟩
def AZ_strings_HasPrefix : Shape := ⟨[(0, (.dat .bool))], []⟩
def AE_strings_HasPrefix : Ent := ⟨164, AS_strings_HasPrefix, AZ_strings_HasPrefix, strings_HasPrefix⟩
def AF_strings_HasPrefix : Fx := AF0 [AE_internal_stringslite_HasPrefix]
theorem strings_HasPrefix_ox : AX AE_strings_HasPrefix := Afs (F := AF_strings_HasPrefix) (fn := Tryz.f164) (m := []) (ents_sound ⟨(internal_stringslite_HasPrefix_ox), trivial⟩) Tryz.func164 trivial
def AS_msg_apart : Shape := ⟨[(0, (.dat .str)), (1, (.dat .str))], []⟩
def AZ_msg_apart : Shape := ⟨[(0, (.dat .bool))], []⟩
def AE_msg_apart : Ent := ⟨368, AS_msg_apart, AZ_msg_apart, msg_apart⟩
def AF_msg_apart : Fx := AF0 [AE_msg_in, AE_strings_HasPrefix]
theorem msg_apart_ox : AX AE_msg_apart := Afs (F := AF_msg_apart) (fn := Tryz.f368) (m := []) (ents_sound ⟨(msg_in_ox), (strings_HasPrefix_ox), trivial⟩) Tryz.func368 trivial
def AS_msg_move_valid : Shape := ⟨[(0, (.dat tapi_Msg))], []⟩
def AZ_msg_move_valid : Shape := ⟨[(0, (.dat .bool))], []⟩
def AE_msg_move_valid : Ent := ⟨364, AS_msg_move_valid, AZ_msg_move_valid, msg_move_valid⟩
def AF_msg_move_valid : Fx := AF0 [AE_msg_apart]
theorem msg_move_valid_ox : AX AE_msg_move_valid := Afs (F := AF_msg_move_valid) (fn := Tryz.f364) (m := []) (ents_sound ⟨(msg_apart_ox), trivial⟩) Tryz.func364 trivial
def AS_msg_move_bare : Shape := ⟨[(0, (.dat tapi_Msg))], []⟩
def AZ_msg_move_bare : Shape := ⟨[(0, (.dat tapi_Msg))], []⟩
def AE_msg_move_bare : Ent := ⟨362, AS_msg_move_bare, AZ_msg_move_bare, msg_move_bare⟩
def AF_msg_move_bare : Fx := AF0 []
theorem msg_move_bare_ox : AX AE_msg_move_bare := Afs (F := AF_msg_move_bare) (fn := Tryz.f362) (m := []) (ents_sound trivial) Tryz.func362 trivial
def AS_msg_clone_valid : Shape := ⟨[(0, (.dat tapi_Msg))], []⟩
def AZ_msg_clone_valid : Shape := ⟨[(0, (.dat .bool))], []⟩
def AE_msg_clone_valid : Ent := ⟨373, AS_msg_clone_valid, AZ_msg_clone_valid, msg_clone_valid⟩
def AF_msg_clone_valid : Fx := AF0 [AE_msg_apart]
theorem msg_clone_valid_ox : AX AE_msg_clone_valid := Afs (F := AF_msg_clone_valid) (fn := Tryz.f373) (m := []) (ents_sound ⟨(msg_apart_ox), trivial⟩) Tryz.func373 trivial
def AS_msg_clone_bare : Shape := ⟨[(0, (.dat tapi_Msg))], []⟩
def AZ_msg_clone_bare : Shape := ⟨[(0, (.dat tapi_Msg))], []⟩
def AE_msg_clone_bare : Ent := ⟨371, AS_msg_clone_bare, AZ_msg_clone_bare, msg_clone_bare⟩
def AF_msg_clone_bare : Fx := AF0 []
theorem msg_clone_bare_ox : AX AE_msg_clone_bare := Afs (F := AF_msg_clone_bare) (fn := Tryz.f371) (m := []) (ents_sound trivial) Tryz.func371 trivial
def AS_msg_stamp_valid : Shape := ⟨[(0, (.dat tapi_Msg))], []⟩
def AZ_msg_stamp_valid : Shape := ⟨[(0, (.dat .bool))], []⟩
def AE_msg_stamp_valid : Ent := ⟨379, AS_msg_stamp_valid, AZ_msg_stamp_valid, msg_stamp_valid⟩
def AF_msg_stamp_valid : Fx := AF0 [AE_msg_in, AE_msg_ends]
theorem msg_stamp_valid_ox : AX AE_msg_stamp_valid := Afs (F := AF_msg_stamp_valid) (fn := Tryz.f379) (m := []) (ents_sound ⟨(msg_in_ox), (msg_ends_ox), trivial⟩) Tryz.func379 trivial
def AS_msg_stamp_bare : Shape := ⟨[(0, (.dat tapi_Msg))], []⟩
def AZ_msg_stamp_bare : Shape := ⟨[(0, (.dat tapi_Msg))], []⟩
def AE_msg_stamp_bare : Ent := ⟨377, AS_msg_stamp_bare, AZ_msg_stamp_bare, msg_stamp_bare⟩
def AF_msg_stamp_bare : Fx := AF0 []
theorem msg_stamp_bare_ox : AX AE_msg_stamp_bare := Afs (F := AF_msg_stamp_bare) (fn := Tryz.f377) (m := []) (ents_sound trivial) Tryz.func377 trivial
def AS_msg_Valid : Shape := ⟨[(0, (.dat tapi_Msg))], []⟩
def AZ_msg_Valid : Shape := ⟨[(0, (.dat .bool))], []⟩
def AE_msg_Valid : Ent := ⟨63, AS_msg_Valid, AZ_msg_Valid, msg_Valid⟩
noncomputable def AF_msg_Valid : Fx := mkFx Acx (inlG Acx (lookupG [AE_msg_put_valid, AE_msg_put_bare, AE_msg_del_valid, AE_msg_del_bare, AE_msg_drop_valid, AE_msg_drop_bare, AE_msg_move_valid, AE_msg_move_bare, AE_msg_clone_valid, AE_msg_clone_bare, AE_msg_stamp_valid, AE_msg_stamp_bare]) 102 Tryz.f102 (lookupG [AE_msg_put_valid, AE_msg_put_bare, AE_msg_del_valid, AE_msg_del_bare, AE_msg_drop_valid, AE_msg_drop_bare, AE_msg_move_valid, AE_msg_move_bare, AE_msg_clone_valid, AE_msg_clone_bare, AE_msg_stamp_valid, AE_msg_stamp_bare])) (fun k st => .fail) 0
theorem msg_Valid_ox : AX AE_msg_Valid := Afs (F := AF_msg_Valid) (fn := Tryz.f63) (m := []) (addG_sound (by kernel_rfl) (inl_sound (F := (mkFx Acx (lookupG [AE_msg_put_valid, AE_msg_put_bare, AE_msg_del_valid, AE_msg_del_bare, AE_msg_drop_valid, AE_msg_drop_bare, AE_msg_move_valid, AE_msg_move_bare, AE_msg_clone_valid, AE_msg_clone_bare, AE_msg_stamp_valid, AE_msg_stamp_bare]) (fun _ _ => .fail) 0)) Atab (ents_sound ⟨(msg_put_valid_ox), (msg_put_bare_ox), (msg_del_valid_ox), (msg_del_bare_ox), (msg_drop_valid_ox), (msg_drop_bare_ox), (msg_move_valid_ox), (msg_move_bare_ox), (msg_clone_valid_ox), (msg_clone_bare_ox), (msg_stamp_valid_ox), (msg_stamp_bare_ox), trivial⟩) Amixed Tryz.func102 (by kernel_rfl) (by kernel_rfl) (by kernel_rfl)) (ents_sound ⟨(msg_put_valid_ox), (msg_put_bare_ox), (msg_del_valid_ox), (msg_del_bare_ox), (msg_drop_valid_ox), (msg_drop_bare_ox), (msg_move_valid_ox), (msg_move_bare_ox), (msg_clone_valid_ox), (msg_clone_bare_ox), (msg_stamp_valid_ox), (msg_stamp_bare_ox), trivial⟩)) Tryz.func63 trivial
def AS_pool_Get : Shape := ⟨[(0, (.dat tapi_Pool)), (1, (.dat (.int .i64)))], []⟩
def AZ_pool_Get : Shape := ⟨[(0, (.dat tapi_Node)), (1, (.dat (.int .i64)))], []⟩
def AE_pool_Get : Ent := ⟨47, AS_pool_Get, AZ_pool_Get, pool_Get⟩
def AF_pool_Get : Fx := AF0 [AE_pool_used]
theorem pool_Get_ox : AX AE_pool_Get := Afs (F := AF_pool_Get) (fn := Tryz.f47) (m := []) (ents_sound ⟨(pool_used_ox), trivial⟩) Tryz.func47 trivial
def AS_tree_leaf : Shape := ⟨[(0, (.dat tapi_Node))], []⟩
def AZ_tree_leaf : Shape := ⟨[(0, (.dat .bool))], []⟩
def AE_tree_leaf : Ent := ⟨48, AS_tree_leaf, AZ_tree_leaf, tree_leaf⟩
def AF_tree_leaf : Fx := AF0 []
theorem tree_leaf_ox : AX AE_tree_leaf := Afs (F := AF_tree_leaf) (fn := Tryz.f48) (m := []) (ents_sound trivial) Tryz.func48 trivial
def AS_internal_bytealg_CompareString : Shape := ⟨[(0, (.dat .str)), (1, (.dat .str))], []⟩
def AZ_internal_bytealg_CompareString : Shape := ⟨[(0, (.dat (.int .i64)))], []⟩
def AE_internal_bytealg_CompareString : Ent := ⟨271, AS_internal_bytealg_CompareString, AZ_internal_bytealg_CompareString, internal_bytealg_CompareString⟩
set_option maxHeartbeats 1000000 in
theorem internal_bytealg_CompareString_calls (a b : ByteArray) (w : World) : Calls Tryz.prog 271 #[.string a, .string b] w fun e w' => e = .returned (.int .i64 (Lib.compareBytes a.data.toList b.data.toList)) ∧ w' = w := by
  go_enter Tryz.func271, Tryz.ntmps271
  go_wp2
  rw [run_callFunc_extern Tryz.func290 (by kernel_rfl) (by kernel_rfl) (by kernel_rfl) (e := Extern.BytealgCompare.compare) (by kernel_rfl), Lib.run_compareString]
  simp only [Result.andThen]
  rw [Oper.upon_value]
  go_wp2
  go_ret
  exact ⟨rfl, rfl⟩
theorem internal_bytealg_CompareString_ok : EntOK Tryz.prog AE_internal_bytealg_CompareString := ext_ss (g := fun a b => Lib.compareBytes a b) Tryz.func271 (by kernel_rfl) internal_bytealg_CompareString_calls
theorem internal_bytealg_CompareString_ox : AX AE_internal_bytealg_CompareString := internal_bytealg_CompareString_ok.x (by kernel_rfl)
def AS_strings_Compare : Shape := ⟨[(0, (.dat .str)), (1, (.dat .str))], []⟩
def AZ_strings_Compare : Shape := ⟨[(0, (.dat (.int .i64)))], []⟩
def AE_strings_Compare : Ent := ⟨246, AS_strings_Compare, AZ_strings_Compare, strings_Compare⟩
def AF_strings_Compare : Fx := AF0 [AE_internal_bytealg_CompareString]
theorem strings_Compare_ox : AX AE_strings_Compare := Afs (F := AF_strings_Compare) (fn := Tryz.f246) (m := []) (ents_sound ⟨(internal_bytealg_CompareString_ox), trivial⟩) Tryz.func246 trivial
def AS_table_placeC1 : Shape := ⟨[(0, (.dat tapi_Pair)), (1, (.dat .str))], []⟩
def AZ_table_placeC1 : Shape := ⟨[(0, (.dat (.int .i64)))], []⟩
def AE_table_placeC1 : Ent := ⟨245, AS_table_placeC1, AZ_table_placeC1, table_placeC1⟩
def AF_table_placeC1 : Fx := AF0 [AE_strings_Compare]
theorem table_placeC1_ox : AX AE_table_placeC1 := Afs (F := AF_table_placeC1) (fn := Tryz.f245) (m := []) (ents_sound ⟨(strings_Compare_ox), trivial⟩) Tryz.func245 trivial
def AL_slices_BinarySearchFunc_api_Pair_api_Pair_string_0 : Lp := ⟨⟨[(0, (.dat (.list tapi_Pair))), (1, (.dat .str)), (2, (.fn 245 [] [])), (8, (.dat (.int .i64))), (9, (.dat (.int .i64))), (10, (.dat (.int .i64)))], []⟩, (.exit 0), ⟨[(0, (.dat (.list tapi_Pair))), (1, (.dat .str)), (2, (.fn 245 [] [])), (8, (.dat (.int .i64))), (9, (.dat (.int .i64)))], []⟩, (.exit 80000000), ⟨[], []⟩⟩
def AS_slices_BinarySearchFunc_api_Pair_api_Pair_string : Shape := ⟨[(0, (.dat (.list tapi_Pair))), (1, (.dat .str)), (2, (.fn 245 [] []))], []⟩
def AZ_slices_BinarySearchFunc_api_Pair_api_Pair_string : Shape := ⟨[(0, (.dat (.int .i64))), (1, (.dat .bool))], []⟩
def AE_slices_BinarySearchFunc_api_Pair_api_Pair_string : Ent := ⟨244, AS_slices_BinarySearchFunc_api_Pair_api_Pair_string, AZ_slices_BinarySearchFunc_api_Pair_api_Pair_string, slices_BinarySearchFunc_api_Pair_api_Pair_string⟩
def AF_slices_BinarySearchFunc_api_Pair_api_Pair_string : Fx := mkFx Acx (lookupG [AE_table_placeC1]) (fun k st => bif Nat.beq k 0 then AL_slices_BinarySearchFunc_api_Pair_api_Pair_string_0.go (slices_BinarySearchFunc_api_Pair_api_Pair_string_l0) 0 st else .fail) 0
theorem slices_BinarySearchFunc_api_Pair_api_Pair_string_hG : GSound Tryz.prog (AF_slices_BinarySearchFunc_api_Pair_api_Pair_string).Γ := ents_sound ⟨(table_placeC1_ox), trivial⟩
theorem slices_BinarySearchFunc_api_Pair_api_Pair_string_la0 : LamOK Tryz.prog (AF_slices_BinarySearchFunc_api_Pair_api_Pair_string) Tryz.f244.ntmps 0 (loopAt (bodyOf Tryz.f244) 0) := Als (L := AL_slices_BinarySearchFunc_api_Pair_api_Pair_string_0) (b := slices_BinarySearchFunc_api_Pair_api_Pair_string_b0) (m := []) slices_BinarySearchFunc_api_Pair_api_Pair_string_hG trivial
theorem slices_BinarySearchFunc_api_Pair_api_Pair_string_ox : AX AE_slices_BinarySearchFunc_api_Pair_api_Pair_string := Afs (F := AF_slices_BinarySearchFunc_api_Pair_api_Pair_string) (fn := Tryz.f244) (m := [(0, loopAt (bodyOf Tryz.f244) 0)]) slices_BinarySearchFunc_api_Pair_api_Pair_string_hG Tryz.func244 ⟨slices_BinarySearchFunc_api_Pair_api_Pair_string_la0, trivial⟩
def AS_table_place : Shape := ⟨[(0, (.dat (.list tapi_Pair))), (1, (.dat .str))], []⟩
def AZ_table_place : Shape := ⟨[(0, (.dat (.int .i64))), (1, (.dat .bool))], []⟩
def AE_table_place : Ent := ⟨200, AS_table_place, AZ_table_place, table_place⟩
def AF_table_place : Fx := AF0 [AE_slices_BinarySearchFunc_api_Pair_api_Pair_string]
theorem table_place_ox : AX AE_table_place := Afs (F := AF_table_place) (fn := Tryz.f200) (m := []) (ents_sound ⟨(slices_BinarySearchFunc_api_Pair_api_Pair_string_ox), trivial⟩) Tryz.func200 trivial
def AS_slices_Clone_api_Pair_api_Pair : Shape := ⟨[(0, (.dat (.list tapi_Pair)))], []⟩
def AZ_slices_Clone_api_Pair_api_Pair : Shape := ⟨[(0, (.own tapi_Pair 0))], [.arr 127 tapi_Pair false]⟩
def AE_slices_Clone_api_Pair_api_Pair : Ent := ⟨144, AS_slices_Clone_api_Pair_api_Pair, AZ_slices_Clone_api_Pair_api_Pair, slices_Clone_api_Pair_api_Pair⟩
def AF_slices_Clone_api_Pair_api_Pair : Fx := mkFx Acx (lookupG []) (fun _ _ => .fail) 0
theorem slices_Clone_api_Pair_api_Pair_ok : EntOK Tryz.prog AE_slices_Clone_api_Pair_api_Pair :=
  clone_ent (F := AF_slices_Clone_api_Pair_api_Pair) Atab (ents_sound trivial) Amixed (fn := Tryz.f144) Tryz.func144 (by kernel_rfl) (by kernel_rfl) (by kernel_rfl) (by kernel_rfl) (by kernel_rfl) (fun s => (decide ((List.length ([] : List (api_Pair)) + List.length s.1) * 40 ≤ roomMax))) (fun s => (s.1, ())) (fun s => ([], ())) (fun s => List.length s.1) (fun s => rfl) (fun s => by kernel_rfl) (fun s => by kernel_rfl) (fun s h => congrArg (fun l => (l, ())) (List.eq_nil_of_length_eq_zero h).symm)
theorem slices_Clone_api_Pair_api_Pair_ox : AX AE_slices_Clone_api_Pair_api_Pair := slices_Clone_api_Pair_api_Pair_ok.x (by kernel_rfl)
def AS_slices_Insert_api_Pair_api_Pair : Shape := ⟨[(0, (.own tapi_Pair 0)), (1, (.dat (.int .i64))), (2, (.own tapi_Pair 1))], [.arr 127 tapi_Pair false, .arr 127 tapi_Pair false]⟩
def AZ_slices_Insert_api_Pair_api_Pair : Shape := ⟨[(0, (.own tapi_Pair 2))], [.gone, .arr 127 tapi_Pair false, .arr 127 tapi_Pair false]⟩
def AE_slices_Insert_api_Pair_api_Pair : Ent := ⟨339, AS_slices_Insert_api_Pair_api_Pair, AZ_slices_Insert_api_Pair_api_Pair, slices_Insert_api_Pair_api_Pair⟩
def AF_slices_Insert_api_Pair_api_Pair : Fx := mkFx Acx (addG 340 (ovG tapi_Pair) (lookupG [])) (fun _ _ => .fail) 2
theorem slices_Insert_api_Pair_api_Pair_hG : GSound Tryz.prog AF_slices_Insert_api_Pair_api_Pair.Γ := addX_sound (ov_ent Atab (T := 81) (T2 := 4) (t := tapi_Pair) (by kernel_rfl) (by kernel_rfl) (by kernel_rfl) Tryz.func340 (by kernel_rfl) (by kernel_rfl) (by kernel_rfl) (by kernel_rfl)) (ents_sound trivial)
theorem slices_Insert_api_Pair_api_Pair_ok : EntOK Tryz.prog AE_slices_Insert_api_Pair_api_Pair :=
  insert_ent (F := AF_slices_Insert_api_Pair_api_Pair) (e := 127) (t := tapi_Pair) (bytes := 40) Atab slices_Insert_api_Pair_api_Pair_hG Amixed (by kernel_rfl) (by kernel_rfl) (fn := Tryz.f339) Tryz.func339 (by kernel_rfl) (by kernel_rfl) (by kernel_rfl) (by kernel_rfl) (by kernel_rfl) rfl (fun i xs ys => by kernel_rfl) (fun i xs z ys => by kernel_rfl)
theorem slices_Insert_api_Pair_api_Pair_ox : AX AE_slices_Insert_api_Pair_api_Pair := slices_Insert_api_Pair_api_Pair_ok.x (by kernel_rfl)
def AS_table_Put : Shape := ⟨[(0, (.dat (.list tapi_Pair))), (1, (.dat tapi_Pair))], []⟩
def AZ_table_Put : Shape := ⟨[(0, (.own tapi_Pair 0))], [.arr 127 tapi_Pair false]⟩
def AE_table_Put : Ent := ⟨337, AS_table_Put, AZ_table_Put, table_Put⟩
def AF_table_Put : Fx := AF0 [AE_table_place, AE_slices_Clone_api_Pair_api_Pair, AE_slices_Insert_api_Pair_api_Pair]
theorem table_Put_ox : AX AE_table_Put := Afs (F := AF_table_Put) (fn := Tryz.f337) (m := []) (ents_sound ⟨(table_place_ox), (slices_Clone_api_Pair_api_Pair_ox), (slices_Insert_api_Pair_api_Pair_ox), trivial⟩) Tryz.func337 trivial
def AS_msg_put_apply : Shape := ⟨[(0, (.dat tapi_Msg)), (1, (.dat (.list tapi_Pair)))], []⟩
def AZ_msg_put_apply : Shape := ⟨[(0, (.own tapi_Pair 0))], [.arr 127 tapi_Pair false]⟩
def AE_msg_put_apply : Ent := ⟨331, AS_msg_put_apply, AZ_msg_put_apply, msg_put_apply⟩
def AF_msg_put_apply : Fx := AF0 [AE_table_Put]
theorem msg_put_apply_ox : AX AE_msg_put_apply := Afs (F := AF_msg_put_apply) (fn := Tryz.f331) (m := []) (ents_sound ⟨(table_Put_ox), trivial⟩) Tryz.func331 trivial
def AS_span_One : Shape := ⟨[(0, (.dat .str))], []⟩
def AZ_span_One : Shape := ⟨[(0, (.dat tapi_Span))], []⟩
def AE_span_One : Ent := ⟨194, AS_span_One, AZ_span_One, span_One⟩
def AF_span_One : Fx := AF0 []
theorem span_One_ox : AX AE_span_One := Afs (F := AF_span_One) (fn := Tryz.f194) (m := []) (ents_sound trivial) Tryz.func194 trivial
def AS_table_bounds : Shape := ⟨[(0, (.dat (.list tapi_Pair))), (1, (.dat tapi_Span))], []⟩
def AZ_table_bounds : Shape := ⟨[(0, (.dat (.int .i64))), (1, (.dat (.int .i64)))], []⟩
def AE_table_bounds : Ent := ⟨148, AS_table_bounds, AZ_table_bounds, table_bounds⟩
def AF_table_bounds : Fx := AF0 [AE_span_Empty, AE_table_place]
theorem table_bounds_ox : AX AE_table_bounds := Afs (F := AF_table_bounds) (fn := Tryz.f148) (m := []) (ents_sound ⟨(span_Empty_ox), (table_place_ox), trivial⟩) Tryz.func148 trivial
def AS_slices_Grow_api_Pair_api_Pair : Shape := ⟨[(0, (.nils 127 tapi_Pair)), (1, (.dat (.int .i64)))], []⟩
def AZ_slices_Grow_api_Pair_api_Pair : Shape := ⟨[(0, (.own tapi_Pair 0))], [.arr 127 tapi_Pair false]⟩
def AE_slices_Grow_api_Pair_api_Pair : Ent := ⟨353, AS_slices_Grow_api_Pair_api_Pair, AZ_slices_Grow_api_Pair_api_Pair, slices_Grow_api_Pair_api_Pair⟩
def AF_slices_Grow_api_Pair_api_Pair : Fx := AF0 []
theorem slices_Grow_api_Pair_api_Pair_ox : AX AE_slices_Grow_api_Pair_api_Pair := Afs (F := AF_slices_Grow_api_Pair_api_Pair) (fn := Tryz.f353) (m := []) (ents_sound trivial) Tryz.func353 trivial
def AL_slices_Concat_api_Pair_api_Pair_0 : Lp := ⟨⟨[(0, (.dat (.list (.list tapi_Pair)))), (3, (.dat (.int .i64))), (9, (.dat (.list (.list tapi_Pair)))), (10, (.dat (.int .i64))), (11, (.dat (.int .i64)))], []⟩, (.exit 0), ⟨[(0, (.dat (.list (.list tapi_Pair)))), (3, (.dat (.int .i64)))], []⟩, (.exit 80000000), ⟨[], []⟩⟩
def AL_slices_Concat_api_Pair_api_Pair_1 : Lp := ⟨⟨[(6, (.own tapi_Pair 0)), (25, (.dat (.list (.list tapi_Pair)))), (26, (.dat (.int .i64))), (27, (.dat (.int .i64)))], [.arr 127 tapi_Pair false]⟩, (.exit 2), ⟨[(6, (.own tapi_Pair 0))], [.arr 127 tapi_Pair false]⟩, (.exit 80000002), ⟨[], []⟩⟩
def AS_slices_Concat_api_Pair_api_Pair : Shape := ⟨[(0, (.dat (.list (.list tapi_Pair))))], []⟩
def AZ_slices_Concat_api_Pair_api_Pair : Shape := ⟨[(0, (.own tapi_Pair 0))], [.arr 127 tapi_Pair false]⟩
def AE_slices_Concat_api_Pair_api_Pair : Ent := ⟨352, AS_slices_Concat_api_Pair_api_Pair, AZ_slices_Concat_api_Pair_api_Pair, slices_Concat_api_Pair_api_Pair⟩
def AF_slices_Concat_api_Pair_api_Pair : Fx := mkFx Acx (lookupG [AE_slices_Grow_api_Pair_api_Pair]) (fun k st => bif Nat.beq k 0 then AL_slices_Concat_api_Pair_api_Pair_0.go (slices_Concat_api_Pair_api_Pair_l0) 0 st else bif Nat.beq k 2 then AL_slices_Concat_api_Pair_api_Pair_1.go (slices_Concat_api_Pair_api_Pair_l1) 0 st else .fail) 0
theorem slices_Concat_api_Pair_api_Pair_hG : GSound Tryz.prog (AF_slices_Concat_api_Pair_api_Pair).Γ := ents_sound ⟨(slices_Grow_api_Pair_api_Pair_ox), trivial⟩
theorem slices_Concat_api_Pair_api_Pair_la0 : LamOK Tryz.prog (AF_slices_Concat_api_Pair_api_Pair) Tryz.f352.ntmps 0 (loopAt (bodyOf Tryz.f352) 0) := Als (L := AL_slices_Concat_api_Pair_api_Pair_0) (b := slices_Concat_api_Pair_api_Pair_b0) (m := []) slices_Concat_api_Pair_api_Pair_hG trivial
theorem slices_Concat_api_Pair_api_Pair_la1 : LamOK Tryz.prog (AF_slices_Concat_api_Pair_api_Pair) Tryz.f352.ntmps 2 (loopAt (bodyOf Tryz.f352) 1) := Als (L := AL_slices_Concat_api_Pair_api_Pair_1) (b := slices_Concat_api_Pair_api_Pair_b1) (m := []) slices_Concat_api_Pair_api_Pair_hG trivial
theorem slices_Concat_api_Pair_api_Pair_ox : AX AE_slices_Concat_api_Pair_api_Pair := Afs (F := AF_slices_Concat_api_Pair_api_Pair) (fn := Tryz.f352) (m := [(0, loopAt (bodyOf Tryz.f352) 0), (2, loopAt (bodyOf Tryz.f352) 1)]) slices_Concat_api_Pair_api_Pair_hG Tryz.func352 ⟨slices_Concat_api_Pair_api_Pair_la0, slices_Concat_api_Pair_api_Pair_la1, trivial⟩
def AS_table_Drop : Shape := ⟨[(0, (.dat (.list tapi_Pair))), (1, (.dat tapi_Span))], []⟩
def AZ_table_Drop : Shape := ⟨[(0, (.own tapi_Pair 0))], [.arr 127 tapi_Pair false]⟩
def AE_table_Drop : Ent := ⟨351, AS_table_Drop, AZ_table_Drop, table_Drop⟩
def AF_table_Drop : Fx := AF0 [AE_table_bounds, AE_slices_Concat_api_Pair_api_Pair]
theorem table_Drop_ox : AX AE_table_Drop := Afs (F := AF_table_Drop) (fn := Tryz.f351) (m := []) (ents_sound ⟨(table_bounds_ox), (slices_Concat_api_Pair_api_Pair_ox), trivial⟩) Tryz.func351 trivial
def AS_table_Del : Shape := ⟨[(0, (.dat (.list tapi_Pair))), (1, (.dat .str))], []⟩
def AZ_table_Del : Shape := ⟨[(0, (.own tapi_Pair 0))], [.arr 127 tapi_Pair false]⟩
def AE_table_Del : Ent := ⟨350, AS_table_Del, AZ_table_Del, table_Del⟩
def AF_table_Del : Fx := AF0 [AE_span_One, AE_table_Drop]
theorem table_Del_ox : AX AE_table_Del := Afs (F := AF_table_Del) (fn := Tryz.f350) (m := []) (ents_sound ⟨(span_One_ox), (table_Drop_ox), trivial⟩) Tryz.func350 trivial
def AS_msg_del_apply : Shape := ⟨[(0, (.dat tapi_Msg)), (1, (.dat (.list tapi_Pair)))], []⟩
def AZ_msg_del_apply : Shape := ⟨[(0, (.own tapi_Pair 0))], [.arr 127 tapi_Pair false]⟩
def AE_msg_del_apply : Ent := ⟨344, AS_msg_del_apply, AZ_msg_del_apply, msg_del_apply⟩
def AF_msg_del_apply : Fx := AF0 [AE_table_Del]
theorem msg_del_apply_ox : AX AE_msg_del_apply := Afs (F := AF_msg_del_apply) (fn := Tryz.f344) (m := []) (ents_sound ⟨(table_Del_ox), trivial⟩) Tryz.func344 trivial
def AS_msg_drop_apply : Shape := ⟨[(0, (.dat tapi_Msg)), (1, (.dat (.list tapi_Pair)))], []⟩
def AZ_msg_drop_apply : Shape := ⟨[(0, (.own tapi_Pair 0))], [.arr 127 tapi_Pair false]⟩
def AE_msg_drop_apply : Ent := ⟨354, AS_msg_drop_apply, AZ_msg_drop_apply, msg_drop_apply⟩
def AF_msg_drop_apply : Fx := AF0 [AE_table_Drop]
theorem msg_drop_apply_ox : AX AE_msg_drop_apply := Afs (F := AF_msg_drop_apply) (fn := Tryz.f354) (m := []) (ents_sound ⟨(table_Drop_ox), trivial⟩) Tryz.func354 trivial

end D
/- Entries, by program. -/
set_option linter.unusedVariables false
set_option maxRecDepth 100000
open Go Go.X Go.Proofs D
namespace D
def AL_span_Prefix_0 : Lp := ⟨⟨[(0, (.dat .str)), (2, (.ptr 0 tapi_Span 0 [])), (3, (.own (.int .u8) 1))], [.box 75 tapi_Span (.agg [(.dat .str), (.dat .str)]), .arr 5 (.int .u8) false]⟩, (.exit 0), ⟨[(0, (.dat .str)), (2, (.ptr 0 tapi_Span 0 [])), (3, (.own (.int .u8) 1))], [.box 75 tapi_Span (.agg [(.dat .str), (.dat .str)]), .arr 5 (.int .u8) false]⟩, (.exit 80000000), ⟨[], []⟩⟩
def AS_span_Prefix : Shape := ⟨[(0, (.dat .str))], []⟩
def AZ_span_Prefix : Shape := ⟨[(0, (.dat tapi_Span))], []⟩
def AE_span_Prefix : Ent := ⟨83, AS_span_Prefix, AZ_span_Prefix, span_Prefix⟩
def AF_span_Prefix : Fx := mkFx Acx (lookupG []) (fun k st => bif Nat.beq k 0 then AL_span_Prefix_0.go (span_Prefix_l0) 0 st else .fail) 0
theorem span_Prefix_hG : GSound Tryz.prog (AF_span_Prefix).Γ := ents_sound trivial
theorem span_Prefix_la0 : LamOK Tryz.prog (AF_span_Prefix) Tryz.f83.ntmps 0 (loopAt (bodyOf Tryz.f83) 0) := Als (L := AL_span_Prefix_0) (b := span_Prefix_b0) (m := []) span_Prefix_hG trivial
theorem span_Prefix_ox : AX AE_span_Prefix := Afs (F := AF_span_Prefix) (fn := Tryz.f83) (m := [(0, loopAt (bodyOf Tryz.f83) 0)]) span_Prefix_hG Tryz.func83 ⟨span_Prefix_la0, trivial⟩
def AS_table_Range : Shape := ⟨[(0, (.dat (.list tapi_Pair))), (1, (.dat tapi_Span))], []⟩
def AZ_table_Range : Shape := ⟨[(0, (.clip tapi_Pair))], []⟩
def AE_table_Range : Ent := ⟨103, AS_table_Range, AZ_table_Range, table_Range⟩
def AF_table_Range : Fx := AF0 [AE_table_bounds]
theorem table_Range_ox : AX AE_table_Range := Afs (F := AF_table_Range) (fn := Tryz.f103) (m := []) (ents_sound ⟨(table_bounds_ox), trivial⟩) Tryz.func103 trivial
def AS_internal_stringslite_CutPrefix : Shape := ⟨[(0, (.dat .str)), (1, (.dat .str))], []⟩
def AZ_internal_stringslite_CutPrefix : Shape := ⟨[(0, (.dat .str)), (1, (.dat .bool))], []⟩
def AE_internal_stringslite_CutPrefix : Ent := ⟨275, AS_internal_stringslite_CutPrefix, AZ_internal_stringslite_CutPrefix, internal_stringslite_CutPrefix⟩
def AF_internal_stringslite_CutPrefix : Fx := AF0 [AE_internal_stringslite_HasPrefix]
theorem internal_stringslite_CutPrefix_ox : AX AE_internal_stringslite_CutPrefix := Afs (F := AF_internal_stringslite_CutPrefix) (fn := Tryz.f275) (m := []) (ents_sound ⟨(internal_stringslite_HasPrefix_ox), trivial⟩) Tryz.func275 trivial
def AS_strings_CutPrefix : Shape := ⟨[(0, (.dat .str)), (1, (.dat .str))], []⟩
def AZ_strings_CutPrefix : Shape := ⟨[(0, (.dat .str)), (1, (.dat .bool))], []⟩
def AE_strings_CutPrefix : Ent := ⟨260, AS_strings_CutPrefix, AZ_strings_CutPrefix, strings_CutPrefix⟩
def AF_strings_CutPrefix : Fx := AF0 [AE_internal_stringslite_CutPrefix]
theorem strings_CutPrefix_ox : AX AE_strings_CutPrefix := Afs (F := AF_strings_CutPrefix) (fn := Tryz.f260) (m := []) (ents_sound ⟨(internal_stringslite_CutPrefix_ox), trivial⟩) Tryz.func260 trivial
def AS_span_Moved : Shape := ⟨[(0, (.dat .str)), (1, (.dat .str)), (2, (.dat .str))], []⟩
def AZ_span_Moved : Shape := ⟨[(0, (.dat .str)), (1, (.dat .bool))], []⟩
def AE_span_Moved : Ent := ⟨242, AS_span_Moved, AZ_span_Moved, span_Moved⟩
def AF_span_Moved : Fx := AF0 [AE_strings_CutPrefix]
theorem span_Moved_ox : AX AE_span_Moved := Afs (F := AF_span_Moved) (fn := Tryz.f242) (m := []) (ents_sound ⟨(strings_CutPrefix_ox), trivial⟩) Tryz.func242 trivial
def AL_msg_moved_0 : Lp := ⟨⟨[(1, (.dat .str)), (2, (.dat .str)), (7, (.own tapi_Pair 0)), (15, (.dat (.int .i64))), (16, (.dat (.int .i64)))], [.arr 127 tapi_Pair false]⟩, (.exit 0), ⟨[(7, (.own tapi_Pair 0))], [.arr 127 tapi_Pair false]⟩, (.exit 80000000), ⟨[], []⟩⟩
def AS_msg_moved : Shape := ⟨[(0, (.dat (.list tapi_Pair))), (1, (.dat .str)), (2, (.dat .str))], []⟩
def AZ_msg_moved : Shape := ⟨[(0, (.own tapi_Pair 0))], [.arr 127 tapi_Pair false]⟩
def AE_msg_moved : Ent := ⟨370, AS_msg_moved, AZ_msg_moved, msg_moved⟩
def AF_msg_moved : Fx := mkFx Acx (lookupG [AE_slices_Clone_api_Pair_api_Pair, AE_span_Prefix, AE_table_Range, AE_span_Moved]) (fun k st => bif Nat.beq k 0 then AL_msg_moved_0.go (msg_moved_l0) 0 st else .fail) 0
theorem msg_moved_hG : GSound Tryz.prog (AF_msg_moved).Γ := ents_sound ⟨(slices_Clone_api_Pair_api_Pair_ox), (span_Prefix_ox), (table_Range_ox), (span_Moved_ox), trivial⟩
theorem msg_moved_la0 : LamOK Tryz.prog (AF_msg_moved) Tryz.f370.ntmps 0 (loopAt (bodyOf Tryz.f370) 0) := Als (L := AL_msg_moved_0) (b := msg_moved_b0) (m := []) msg_moved_hG trivial
theorem msg_moved_ox : AX AE_msg_moved := Afs (F := AF_msg_moved) (fn := Tryz.f370) (m := [(0, loopAt (bodyOf Tryz.f370) 0)]) msg_moved_hG Tryz.func370 ⟨msg_moved_la0, trivial⟩
def AL_table_Union_0 : Lp := ⟨⟨[(0, (.dat (.list tapi_Pair))), (1, (.dat (.list tapi_Pair))), (5, (.own tapi_Pair 0))], [.arr 127 tapi_Pair false]⟩, (.exit 0), ⟨[(0, (.dat (.list tapi_Pair))), (1, (.dat (.list tapi_Pair))), (5, (.own tapi_Pair 0))], [.arr 127 tapi_Pair false]⟩, (.exit 80000000), ⟨[], []⟩⟩
def AS_table_Union : Shape := ⟨[(0, (.dat (.list tapi_Pair))), (1, (.dat (.list tapi_Pair)))], []⟩
def AZ_table_Union : Shape := ⟨[(0, (.own tapi_Pair 0))], [.arr 127 tapi_Pair false]⟩
def AE_table_Union : Ent := ⟨369, AS_table_Union, AZ_table_Union, table_Union⟩
def AF_table_Union : Fx := mkFx Acx (lookupG []) (fun k st => bif Nat.beq k 0 then AL_table_Union_0.go (table_Union_l0) 0 st else .fail) 0
theorem table_Union_hG : GSound Tryz.prog (AF_table_Union).Γ := ents_sound trivial
theorem table_Union_la0 : LamOK Tryz.prog (AF_table_Union) Tryz.f369.ntmps 0 (loopAt (bodyOf Tryz.f369) 0) := Als (L := AL_table_Union_0) (b := table_Union_b0) (m := []) table_Union_hG trivial
theorem table_Union_ox : AX AE_table_Union := Afs (F := AF_table_Union) (fn := Tryz.f369) (m := [(0, loopAt (bodyOf Tryz.f369) 0)]) table_Union_hG Tryz.func369 ⟨table_Union_la0, trivial⟩
def AS_msg_clone_apply : Shape := ⟨[(0, (.dat tapi_Msg)), (1, (.dat (.list tapi_Pair)))], []⟩
def AZ_msg_clone_apply : Shape := ⟨[(0, (.own tapi_Pair 0))], [.arr 127 tapi_Pair false]⟩
def AE_msg_clone_apply : Ent := ⟨367, AS_msg_clone_apply, AZ_msg_clone_apply, msg_clone_apply⟩
def AF_msg_clone_apply : Fx := AF0 [AE_table_Drop, AE_span_Prefix, AE_msg_moved, AE_table_Union]
theorem msg_clone_apply_ox : AX AE_msg_clone_apply := Afs (F := AF_msg_clone_apply) (fn := Tryz.f367) (m := []) (ents_sound ⟨(table_Drop_ox), (span_Prefix_ox), (msg_moved_ox), (table_Union_ox), trivial⟩) Tryz.func367 trivial
def AS_msg_move_apply : Shape := ⟨[(0, (.dat tapi_Msg)), (1, (.dat (.list tapi_Pair)))], []⟩
def AZ_msg_move_apply : Shape := ⟨[(0, (.own tapi_Pair 0))], [.arr 127 tapi_Pair false]⟩
def AE_msg_move_apply : Ent := ⟨361, AS_msg_move_apply, AZ_msg_move_apply, msg_move_apply⟩
def AF_msg_move_apply : Fx := AF0 [AE_table_Drop, AE_span_Prefix, AE_msg_clone_apply]
theorem msg_move_apply_ox : AX AE_msg_move_apply := Afs (F := AF_msg_move_apply) (fn := Tryz.f361) (m := []) (ents_sound ⟨(table_Drop_ox), (span_Prefix_ox), (msg_clone_apply_ox), trivial⟩) Tryz.func361 trivial
def AS_span_Has : Shape := ⟨[(0, (.dat tapi_Span)), (1, (.dat .str))], []⟩
def AZ_span_Has : Shape := ⟨[(0, (.dat .bool))], []⟩
def AE_span_Has : Ent := ⟨147, AS_span_Has, AZ_span_Has, span_Has⟩
def AF_span_Has : Fx := AF0 []
theorem span_Has_ox : AX AE_span_Has := Afs (F := AF_span_Has) (fn := Tryz.f147) (m := []) (ents_sound trivial) Tryz.func147 trivial
def AL_msg_stamp_apply_0 : Lp := ⟨⟨[(2, (.ptr 0 tapi_Msg 0 [])), (5, (.own tapi_Pair 1)), (10, (.dat (.int .i64))), (11, (.dat (.int .i64)))], [.box 225 tapi_Msg (.dat tapi_Msg), .arr 127 tapi_Pair false]⟩, (.exit 0), ⟨[(5, (.own tapi_Pair 0))], [.arr 127 tapi_Pair false]⟩, (.exit 80000000), ⟨[], []⟩⟩
def AS_msg_stamp_apply : Shape := ⟨[(0, (.dat tapi_Msg)), (1, (.dat (.list tapi_Pair)))], []⟩
def AZ_msg_stamp_apply : Shape := ⟨[(0, (.own tapi_Pair 0))], [.arr 127 tapi_Pair false]⟩
def AE_msg_stamp_apply : Ent := ⟨376, AS_msg_stamp_apply, AZ_msg_stamp_apply, msg_stamp_apply⟩
def AF_msg_stamp_apply : Fx := mkFx Acx (lookupG [AE_slices_Clone_api_Pair_api_Pair, AE_span_Has]) (fun k st => bif Nat.beq k 0 then AL_msg_stamp_apply_0.go (msg_stamp_apply_l0) 0 st else .fail) 0
theorem msg_stamp_apply_hG : GSound Tryz.prog (AF_msg_stamp_apply).Γ := ents_sound ⟨(slices_Clone_api_Pair_api_Pair_ox), (span_Has_ox), trivial⟩
theorem msg_stamp_apply_la0 : LamOK Tryz.prog (AF_msg_stamp_apply) Tryz.f376.ntmps 0 (loopAt (bodyOf Tryz.f376) 0) := Als (L := AL_msg_stamp_apply_0) (b := msg_stamp_apply_b0) (m := []) msg_stamp_apply_hG trivial
theorem msg_stamp_apply_ox : AX AE_msg_stamp_apply := Afs (F := AF_msg_stamp_apply) (fn := Tryz.f376) (m := [(0, loopAt (bodyOf Tryz.f376) 0)]) msg_stamp_apply_hG Tryz.func376 ⟨msg_stamp_apply_la0, trivial⟩
def AS_msg_Apply : Shape := ⟨[(0, (.dat (.list tapi_Pair))), (1, (.dat tapi_Msg))], []⟩
def AZ_msg_Apply : Shape := ⟨[(0, (.dat (.list tapi_Pair)))], []⟩
def AE_msg_Apply : Ent := ⟨58, AS_msg_Apply, AZ_msg_Apply, msg_Apply⟩
noncomputable def AF_msg_Apply : Fx := mkFx Acx (inlG Acx (lookupG [AE_msg_put_apply, AE_msg_del_apply, AE_msg_drop_apply, AE_msg_clone_apply, AE_msg_move_apply, AE_msg_stamp_apply]) 102 Tryz.f102 (lookupG [AE_msg_put_apply, AE_msg_del_apply, AE_msg_drop_apply, AE_msg_clone_apply, AE_msg_move_apply, AE_msg_stamp_apply])) (fun k st => .fail) 0
theorem msg_Apply_ox : AX AE_msg_Apply := Afs (F := AF_msg_Apply) (fn := Tryz.f58) (m := []) (addG_sound (by kernel_rfl) (inl_sound (F := (mkFx Acx (lookupG [AE_msg_put_apply, AE_msg_del_apply, AE_msg_drop_apply, AE_msg_clone_apply, AE_msg_move_apply, AE_msg_stamp_apply]) (fun _ _ => .fail) 0)) Atab (ents_sound ⟨(msg_put_apply_ox), (msg_del_apply_ox), (msg_drop_apply_ox), (msg_clone_apply_ox), (msg_move_apply_ox), (msg_stamp_apply_ox), trivial⟩) Amixed Tryz.func102 (by kernel_rfl) (by kernel_rfl) (by kernel_rfl)) (ents_sound ⟨(msg_put_apply_ox), (msg_del_apply_ox), (msg_drop_apply_ox), (msg_clone_apply_ox), (msg_move_apply_ox), (msg_stamp_apply_ox), trivial⟩)) Tryz.func58 trivial
def AL_pool_Drop_0 : Lp := ⟨⟨[(4, (.ptr 0 tapi_Pool 0 [])), (6, (.ptr 1 tapi_Pool 0 [])), (7, (.own (.int .i64) 2))], [.box 39 tapi_Pool (.agg [(.dat (.list tapi_Slot))]), .box 39 tapi_Pool (.agg [(.own tapi_Slot 3)]), .arr 3 (.int .i64) false, .arr 102 tapi_Slot false]⟩, (.exit 0), ⟨[(4, (.ptr 0 tapi_Pool 0 [])), (6, (.ptr 1 tapi_Pool 0 []))], [.box 39 tapi_Pool (.agg [(.dat (.list tapi_Slot))]), .box 39 tapi_Pool (.agg [(.own tapi_Slot 2)]), .arr 102 tapi_Slot false]⟩, (.exit 80000000), ⟨[], []⟩⟩
def AS_pool_Drop : Shape := ⟨[(0, (.dat tapi_Pool)), (1, (.dat (.int .i64)))], []⟩
def AZ_pool_Drop : Shape := ⟨[(0, (.dat tapi_Pool)), (1, (.dat (.int .i64)))], []⟩
def AE_pool_Drop : Ent := ⟨65, AS_pool_Drop, AZ_pool_Drop, pool_Drop⟩
def AF_pool_Drop : Fx := mkFx Acx (lookupG [AE_pool_used, AE_pool_clone]) (fun k st => bif Nat.beq k 0 then AL_pool_Drop_0.go (pool_Drop_l0) 0 st else .fail) 0
theorem pool_Drop_hG : GSound Tryz.prog (AF_pool_Drop).Γ := ents_sound ⟨(pool_used_ox), (pool_clone_ox), trivial⟩
theorem pool_Drop_la0 : LamOK Tryz.prog (AF_pool_Drop) Tryz.f65.ntmps 0 (loopAt (bodyOf Tryz.f65) 0) := Als (L := AL_pool_Drop_0) (b := pool_Drop_b0) (m := []) pool_Drop_hG trivial
theorem pool_Drop_ox : AX AE_pool_Drop := Afs (F := AF_pool_Drop) (fn := Tryz.f65) (m := [(0, loopAt (bodyOf Tryz.f65) 0)]) pool_Drop_hG Tryz.func65 ⟨pool_Drop_la0, trivial⟩
def AS_slices_Clip_api_Msg_api_Msg : Shape := ⟨[(0, (.dat (.list tapi_Msg)))], []⟩
def AZ_slices_Clip_api_Msg_api_Msg : Shape := ⟨[(0, (.clip tapi_Msg))], []⟩
def AE_slices_Clip_api_Msg_api_Msg : Ent := ⟨64, AS_slices_Clip_api_Msg_api_Msg, AZ_slices_Clip_api_Msg_api_Msg, slices_Clip_api_Msg_api_Msg⟩
def AF_slices_Clip_api_Msg_api_Msg : Fx := AF0 []
theorem slices_Clip_api_Msg_api_Msg_ox : AX AE_slices_Clip_api_Msg_api_Msg := Afs (F := AF_slices_Clip_api_Msg_api_Msg) (fn := Tryz.f64) (m := []) (ents_sound trivial) Tryz.func64 trivial
def AS_tree_Add : Shape := ⟨[(0, (.dat tapi_Tree)), (1, (.dat tapi_Msg))], []⟩
def AZ_tree_Add : Shape := ⟨[(0, (.dat tapi_Tree)), (1, (.dat (.int .i64)))], []⟩
def AE_tree_Add : Ent := ⟨34, AS_tree_Add, AZ_tree_Add, tree_Add⟩
def AF_tree_Add : Fx := AF0 [AE_pool_Add, AE_msg_Valid, AE_pool_Get, AE_tree_leaf, AE_msg_Apply, AE_pool_Drop, AE_slices_Clip_api_Msg_api_Msg]
theorem tree_Add_ok : EntOK Tryz.prog AE_tree_Add := Afk (F := AF_tree_Add) (fn := Tryz.f34) (m := []) (ents_sound ⟨(pool_Add_ox), (msg_Valid_ox), (pool_Get_ox), (tree_leaf_ox), (msg_Apply_ox), (pool_Drop_ox), (slices_Clip_api_Msg_api_Msg_ox), trivial⟩) Tryz.func34 trivial
theorem tree_Add_ox : AX AE_tree_Add := tree_Add_ok.x (by kernel_rfl)
def AS_ref12_Right : Shape := ⟨[(0, (.dat tapi_Shape))], []⟩
def AZ_ref12_Right : Shape := ⟨[(0, (.dat .bool))], []⟩
def AE_ref12_Right : Ent := ⟨66, AS_ref12_Right, AZ_ref12_Right, ref12_Right⟩
def AF_ref12_Right : Fx := AF0 []
theorem ref12_Right_ox : AX AE_ref12_Right := Afs (F := AF_ref12_Right) (fn := Tryz.f66) (m := []) (ents_sound trivial) Tryz.func66 trivial
def AS_ref12_level : Shape := ⟨[(0, (.dat tapi_Pool)), (1, (.dat (.int .i64))), (2, (.dat tapi_Span)), (3, (.dat (.int .i64)))], []⟩
def AZ_ref12_level : Shape := ⟨[(0, (.dat (.int .i64)))], []⟩
def AE_ref12_level_r (ref12_level_r : ((api_Pool) × (Int) × (api_Span) × (Int) × Unit) → Option ((Int) × Unit)) : Ent := ⟨67, AS_ref12_level, AZ_ref12_level, ref12_level_r⟩
def AS_ref11_Used : Shape := ⟨[(0, (.dat tapi_Pool)), (1, (.dat (.int .i64)))], []⟩
def AZ_ref11_Used : Shape := ⟨[(0, (.dat .bool))], []⟩
def AE_ref11_Used : Ent := ⟨74, AS_ref11_Used, AZ_ref11_Used, ref11_Used⟩
def AF_ref11_Used : Fx := AF0 []
theorem ref11_Used_ox : AX AE_ref11_Used := Afs (F := AF_ref11_Used) (fn := Tryz.f74) (m := []) (ents_sound trivial) Tryz.func74 trivial
def AS_ref11_Get : Shape := ⟨[(0, (.dat tapi_Pool)), (1, (.dat (.int .i64)))], []⟩
def AZ_ref11_Get : Shape := ⟨[(0, (.dat tapi_Node)), (1, (.dat (.int .i64)))], []⟩
def AE_ref11_Get : Ent := ⟨85, AS_ref11_Get, AZ_ref11_Get, ref11_Get⟩
def AF_ref11_Get : Fx := AF0 [AE_ref11_Used]
theorem ref11_Get_ox : AX AE_ref11_Get := Afs (F := AF_ref11_Get) (fn := Tryz.f85) (m := []) (ents_sound ⟨(ref11_Used_ox), trivial⟩) Tryz.func85 trivial
def AL_ref04_Valid_0 : Lp := ⟨⟨[(0, (.dat (.list tapi_Pair))), (3, (.dat (.int .i64)))], []⟩, .ret, ⟨[(2, (.dat .bool))], []⟩, (.exit 0), ⟨[], []⟩⟩
def AS_ref04_Valid : Shape := ⟨[(0, (.dat (.list tapi_Pair)))], []⟩
def AZ_ref04_Valid : Shape := ⟨[(0, (.dat .bool))], []⟩
def AE_ref04_Valid : Ent := ⟨201, AS_ref04_Valid, AZ_ref04_Valid, ref04_Valid⟩
def AF_ref04_Valid : Fx := mkFx Acx (lookupG []) (fun k st => bif Nat.beq k 0 then AL_ref04_Valid_0.go (ref04_Valid_l0) 0 st else .fail) 0
theorem ref04_Valid_hG : GSound Tryz.prog (AF_ref04_Valid).Γ := ents_sound trivial
theorem ref04_Valid_la0 : LamOK Tryz.prog (AF_ref04_Valid) Tryz.f201.ntmps 0 (loopAt (bodyOf Tryz.f201) 0) := Als (L := AL_ref04_Valid_0) (b := ref04_Valid_b0) (m := []) ref04_Valid_hG trivial
theorem ref04_Valid_ox : AX AE_ref04_Valid := Afs (F := AF_ref04_Valid) (fn := Tryz.f201) (m := [(0, loopAt (bodyOf Tryz.f201) 0)]) ref04_Valid_hG Tryz.func201 ⟨ref04_Valid_la0, trivial⟩
def AS_ref02_Has : Shape := ⟨[(0, (.dat tapi_Span)), (1, (.dat .str))], []⟩
def AZ_ref02_Has : Shape := ⟨[(0, (.dat .bool))], []⟩
def AE_ref02_Has : Ent := ⟨129, AS_ref02_Has, AZ_ref02_Has, ref02_Has⟩
def AF_ref02_Has : Fx := AF0 []
theorem ref02_Has_ox : AX AE_ref02_Has := Afs (F := AF_ref02_Has) (fn := Tryz.f129) (m := []) (ents_sound trivial) Tryz.func129 trivial
def AS_ref10_in : Shape := ⟨[(0, (.dat (.int .i64))), (1, (.dat (.int .i64))), (2, (.dat (.int .i64)))], []⟩
def AZ_ref10_in : Shape := ⟨[(0, (.dat .bool))], []⟩
def AE_ref10_in : Ent := ⟨152, AS_ref10_in, AZ_ref10_in, ref10_in⟩
def AF_ref10_in : Fx := AF0 []
theorem ref10_in_ox : AX AE_ref10_in := Afs (F := AF_ref10_in) (fn := Tryz.f152) (m := []) (ents_sound trivial) Tryz.func152 trivial
def AL_ref10_leaf_0 : Lp := ⟨⟨[(2, (.ptr 0 tapi_Node 0 [])), (3, (.ptr 1 tapi_Span 0 [])), (5, (.dat (.int .i64)))], [.box 100 tapi_Node (.dat tapi_Node), .box 75 tapi_Span (.dat tapi_Span)]⟩, .ret, ⟨[(4, (.dat .bool))], []⟩, (.exit 0), ⟨[], []⟩⟩
def AS_ref10_leaf : Shape := ⟨[(0, (.dat tapi_Node)), (1, (.dat tapi_Span))], []⟩
def AZ_ref10_leaf : Shape := ⟨[(0, (.dat .bool))], []⟩
def AE_ref10_leaf : Ent := ⟨150, AS_ref10_leaf, AZ_ref10_leaf, ref10_leaf⟩
def AF_ref10_leaf : Fx := mkFx Acx (lookupG [AE_ref04_Valid, AE_ref02_Has, AE_ref10_in]) (fun k st => bif Nat.beq k 0 then AL_ref10_leaf_0.go (ref10_leaf_l0) 0 st else .fail) 0
theorem ref10_leaf_hG : GSound Tryz.prog (AF_ref10_leaf).Γ := ents_sound ⟨(ref04_Valid_ox), (ref02_Has_ox), (ref10_in_ox), trivial⟩
theorem ref10_leaf_la0 : LamOK Tryz.prog (AF_ref10_leaf) Tryz.f150.ntmps 0 (loopAt (bodyOf Tryz.f150) 0) := Als (L := AL_ref10_leaf_0) (b := ref10_leaf_b0) (m := []) ref10_leaf_hG trivial
theorem ref10_leaf_ox : AX AE_ref10_leaf := Afs (F := AF_ref10_leaf) (fn := Tryz.f150) (m := [(0, loopAt (bodyOf Tryz.f150) 0)]) ref10_leaf_hG Tryz.func150 ⟨ref10_leaf_la0, trivial⟩
def AL_ref10_pivots_0 : Lp := ⟨⟨[(0, (.dat (.list .str))), (3, (.ptr 0 tapi_Span 0 [])), (5, (.dat (.int .i64)))], [.box 75 tapi_Span (.dat tapi_Span)]⟩, .ret, ⟨[(4, (.dat .bool))], []⟩, (.exit 0), ⟨[], []⟩⟩
def AS_ref10_pivots : Shape := ⟨[(0, (.dat (.list .str))), (1, (.dat tapi_Span))], []⟩
def AZ_ref10_pivots : Shape := ⟨[(0, (.dat .bool))], []⟩
def AE_ref10_pivots : Ent := ⟨151, AS_ref10_pivots, AZ_ref10_pivots, ref10_pivots⟩
def AF_ref10_pivots : Fx := mkFx Acx (lookupG []) (fun k st => bif Nat.beq k 0 then AL_ref10_pivots_0.go (ref10_pivots_l0) 0 st else .fail) 0
theorem ref10_pivots_hG : GSound Tryz.prog (AF_ref10_pivots).Γ := ents_sound trivial
theorem ref10_pivots_la0 : LamOK Tryz.prog (AF_ref10_pivots) Tryz.f151.ntmps 0 (loopAt (bodyOf Tryz.f151) 0) := Als (L := AL_ref10_pivots_0) (b := ref10_pivots_b0) (m := []) ref10_pivots_hG trivial
theorem ref10_pivots_ox : AX AE_ref10_pivots := Afs (F := AF_ref10_pivots) (fn := Tryz.f151) (m := [(0, loopAt (bodyOf Tryz.f151) 0)]) ref10_pivots_hG Tryz.func151 ⟨ref10_pivots_la0, trivial⟩
def AS_ref10_bound : Shape := ⟨[(0, (.dat tapi_Use))], []⟩
def AZ_ref10_bound : Shape := ⟨[(0, (.dat .bool))], []⟩
def AE_ref10_bound : Ent := ⟨153, AS_ref10_bound, AZ_ref10_bound, ref10_bound⟩
def AF_ref10_bound : Fx := AF0 []
theorem ref10_bound_ox : AX AE_ref10_bound := Afs (F := AF_ref10_bound) (fn := Tryz.f153) (m := []) (ents_sound trivial) Tryz.func153 trivial
def AS_ref05_in : Shape := ⟨[(0, (.dat (.int .i64))), (1, (.dat (.int .i64))), (2, (.dat (.int .i64)))], []⟩
def AZ_ref05_in : Shape := ⟨[(0, (.dat .bool))], []⟩
def AE_ref05_in : Ent := ⟨54, AS_ref05_in, AZ_ref05_in, ref05_in⟩
def AF_ref05_in : Fx := AF0 []
theorem ref05_in_ox : AX AE_ref05_in := Afs (F := AF_ref05_in) (fn := Tryz.f54) (m := []) (ents_sound trivial) Tryz.func54 trivial
def AS_ref02_Empty : Shape := ⟨[(0, (.dat tapi_Span))], []⟩
def AZ_ref02_Empty : Shape := ⟨[(0, (.dat .bool))], []⟩
def AE_ref02_Empty : Ent := ⟨98, AS_ref02_Empty, AZ_ref02_Empty, ref02_Empty⟩
def AF_ref02_Empty : Fx := AF0 []
theorem ref02_Empty_ox : AX AE_ref02_Empty := Afs (F := AF_ref02_Empty) (fn := Tryz.f98) (m := []) (ents_sound trivial) Tryz.func98 trivial
def AS_ref05_span : Shape := ⟨[(0, (.dat tapi_Span))], []⟩
def AZ_ref05_span : Shape := ⟨[(0, (.dat .bool))], []⟩
def AE_ref05_span : Ent := ⟨55, AS_ref05_span, AZ_ref05_span, ref05_span⟩
def AF_ref05_span : Fx := AF0 [AE_ref02_Empty]
theorem ref05_span_ox : AX AE_ref05_span := Afs (F := AF_ref05_span) (fn := Tryz.f55) (m := []) (ents_sound ⟨(ref02_Empty_ox), trivial⟩) Tryz.func55 trivial
def AS_ref02_Begins : Shape := ⟨[(0, (.dat .str)), (1, (.dat .str))], []⟩
def AZ_ref02_Begins : Shape := ⟨[(0, (.dat .bool))], []⟩
def AE_ref02_Begins : Ent := ⟨56, AS_ref02_Begins, AZ_ref02_Begins, ref02_Begins⟩
def AF_ref02_Begins : Fx := AF0 []
theorem ref02_Begins_ox : AX AE_ref02_Begins := Afs (F := AF_ref02_Begins) (fn := Tryz.f56) (m := []) (ents_sound trivial) Tryz.func56 trivial
def AS_ref05_Valid : Shape := ⟨[(0, (.dat tapi_Msg))], []⟩
def AZ_ref05_Valid : Shape := ⟨[(0, (.dat .bool))], []⟩
def AE_ref05_Valid : Ent := ⟨27, AS_ref05_Valid, AZ_ref05_Valid, ref05_Valid⟩
def AF_ref05_Valid : Fx := AF0 [AE_ref05_in, AE_ref05_span, AE_ref02_Begins]
theorem ref05_Valid_ox : AX AE_ref05_Valid := Afs (F := AF_ref05_Valid) (fn := Tryz.f27) (m := []) (ents_sound ⟨(ref05_in_ox), (ref05_span_ox), (ref02_Begins_ox), trivial⟩) Tryz.func27 trivial
def AL_ref02_Prefix_0 : Lp := ⟨⟨[(0, (.dat .str)), (2, (.ptr 0 tapi_Span 0 [])), (3, (.dat (.int .i64)))], [.box 75 tapi_Span (.agg [(.dat .str), (.dat .str)])]⟩, (.exit 0), ⟨[(0, (.dat .str)), (2, (.ptr 0 tapi_Span 0 [])), (3, (.dat (.int .i64)))], [.box 75 tapi_Span (.agg [(.dat .str), (.dat .str)])]⟩, (.exit 80000000), ⟨[], []⟩⟩
def AS_ref02_Prefix : Shape := ⟨[(0, (.dat .str))], []⟩
def AZ_ref02_Prefix : Shape := ⟨[(0, (.dat tapi_Span))], []⟩
def AE_ref02_Prefix : Ent := ⟨92, AS_ref02_Prefix, AZ_ref02_Prefix, ref02_Prefix⟩
def AF_ref02_Prefix : Fx := mkFx Acx (lookupG []) (fun k st => bif Nat.beq k 0 then AL_ref02_Prefix_0.go (ref02_Prefix_l0) 0 st else .fail) 0
theorem ref02_Prefix_hG : GSound Tryz.prog (AF_ref02_Prefix).Γ := ents_sound trivial
theorem ref02_Prefix_la0 : LamOK Tryz.prog (AF_ref02_Prefix) Tryz.f92.ntmps 0 (loopAt (bodyOf Tryz.f92) 0) := Als (L := AL_ref02_Prefix_0) (b := ref02_Prefix_b0) (m := []) ref02_Prefix_hG trivial
theorem ref02_Prefix_ox : AX AE_ref02_Prefix := Afs (F := AF_ref02_Prefix) (fn := Tryz.f92) (m := [(0, loopAt (bodyOf Tryz.f92) 0)]) ref02_Prefix_hG Tryz.func92 ⟨ref02_Prefix_la0, trivial⟩
def AS_ref05_Reads : Shape := ⟨[(0, (.dat tapi_Msg))], []⟩
def AZ_ref05_Reads : Shape := ⟨[(0, (.own tapi_Span 0))], [.arr 75 tapi_Span false]⟩
def AE_ref05_Reads : Ent := ⟨202, AS_ref05_Reads, AZ_ref05_Reads, ref05_Reads⟩
def AF_ref05_Reads : Fx := AF0 [AE_ref02_Prefix]
theorem ref05_Reads_ox : AX AE_ref05_Reads := Afs (F := AF_ref05_Reads) (fn := Tryz.f202) (m := []) (ents_sound ⟨(ref02_Prefix_ox), trivial⟩) Tryz.func202 trivial
def AS_ref02_One : Shape := ⟨[(0, (.dat .str))], []⟩
def AZ_ref02_One : Shape := ⟨[(0, (.dat tapi_Span))], []⟩
def AE_ref02_One : Ent := ⟨120, AS_ref02_One, AZ_ref02_One, ref02_One⟩
def AF_ref02_One : Fx := AF0 []
theorem ref02_One_ox : AX AE_ref02_One := Afs (F := AF_ref02_One) (fn := Tryz.f120) (m := []) (ents_sound trivial) Tryz.func120 trivial
def AS_ref05_Writes : Shape := ⟨[(0, (.dat tapi_Msg))], []⟩
def AZ_ref05_Writes : Shape := ⟨[(0, (.own tapi_Span 0))], [.arr 75 tapi_Span false]⟩
def AE_ref05_Writes : Ent := ⟨203, AS_ref05_Writes, AZ_ref05_Writes, ref05_Writes⟩
def AF_ref05_Writes : Fx := AF0 [AE_ref02_Prefix, AE_ref02_One]
theorem ref05_Writes_ox : AX AE_ref05_Writes := Afs (F := AF_ref05_Writes) (fn := Tryz.f203) (m := []) (ents_sound ⟨(ref02_Prefix_ox), (ref02_One_ox), trivial⟩) Tryz.func203 trivial
def AS_ref02_Less : Shape := ⟨[(0, (.dat .str)), (1, (.dat .str))], []⟩
def AZ_ref02_Less : Shape := ⟨[(0, (.dat .bool))], []⟩
def AE_ref02_Less : Ent := ⟨185, AS_ref02_Less, AZ_ref02_Less, ref02_Less⟩
def AF_ref02_Less : Fx := AF0 []
theorem ref02_Less_ox : AX AE_ref02_Less := Afs (F := AF_ref02_Less) (fn := Tryz.f185) (m := []) (ents_sound trivial) Tryz.func185 trivial
def AS_ref02_Covers : Shape := ⟨[(0, (.dat tapi_Span)), (1, (.dat tapi_Span))], []⟩
def AZ_ref02_Covers : Shape := ⟨[(0, (.dat .bool))], []⟩
def AE_ref02_Covers : Ent := ⟨204, AS_ref02_Covers, AZ_ref02_Covers, ref02_Covers⟩
def AF_ref02_Covers : Fx := AF0 [AE_ref02_Empty, AE_ref02_Less]
theorem ref02_Covers_ox : AX AE_ref02_Covers := Afs (F := AF_ref02_Covers) (fn := Tryz.f204) (m := []) (ents_sound ⟨(ref02_Empty_ox), (ref02_Less_ox), trivial⟩) Tryz.func204 trivial
def AL_ref10_Inside_0 : Lp := ⟨⟨[(3, (.ptr 0 tapi_Span 0 [])), (5, (.own tapi_Span 1)), (6, (.dat (.int .i64)))], [.box 75 tapi_Span (.dat tapi_Span), .arr 75 tapi_Span false]⟩, .ret, ⟨[(4, (.dat .bool))], []⟩, (.exit 0), ⟨[], []⟩⟩
def AS_ref10_Inside : Shape := ⟨[(0, (.dat tapi_Msg)), (1, (.dat tapi_Span))], []⟩
def AZ_ref10_Inside : Shape := ⟨[(0, (.dat .bool))], []⟩
def AE_ref10_Inside : Ent := ⟨154, AS_ref10_Inside, AZ_ref10_Inside, ref10_Inside⟩
def AF_ref10_Inside : Fx := mkFx Acx (lookupG [AE_ref05_Reads, AE_ref05_Writes, AE_ref02_Covers]) (fun k st => bif Nat.beq k 0 then AL_ref10_Inside_0.go (ref10_Inside_l0) 0 st else .fail) 0
theorem ref10_Inside_hG : GSound Tryz.prog (AF_ref10_Inside).Γ := ents_sound ⟨(ref05_Reads_ox), (ref05_Writes_ox), (ref02_Covers_ox), trivial⟩
theorem ref10_Inside_la0 : LamOK Tryz.prog (AF_ref10_Inside) Tryz.f154.ntmps 0 (loopAt (bodyOf Tryz.f154) 0) := Als (L := AL_ref10_Inside_0) (b := ref10_Inside_b0) (m := []) ref10_Inside_hG trivial
theorem ref10_Inside_ox : AX AE_ref10_Inside := Afs (F := AF_ref10_Inside) (fn := Tryz.f154) (m := [(0, loopAt (bodyOf Tryz.f154) 0)]) ref10_Inside_hG Tryz.func154 ⟨ref10_Inside_la0, trivial⟩
def AL_ref10_Valid_0 : Lp := ⟨⟨[(2, (.ptr 0 tapi_Node 0 [])), (3, (.ptr 1 tapi_Span 0 [])), (5, (.dat (.int .i64)))], [.box 100 tapi_Node (.dat tapi_Node), .box 75 tapi_Span (.dat tapi_Span)]⟩, .ret, ⟨[(4, (.dat .bool))], []⟩, (.exit 0), ⟨[(2, (.ptr 0 tapi_Node 0 [])), (3, (.ptr 1 tapi_Span 0 []))], [.box 100 tapi_Node (.dat tapi_Node), .box 75 tapi_Span (.dat tapi_Span)]⟩⟩
def AL_ref10_Valid_1 : Lp := ⟨⟨[(2, (.ptr 0 tapi_Node 0 [])), (3, (.ptr 1 tapi_Span 0 [])), (6, (.dat (.int .i64)))], [.box 100 tapi_Node (.dat tapi_Node), .box 75 tapi_Span (.dat tapi_Span)]⟩, .ret, ⟨[(4, (.dat .bool))], []⟩, (.exit 2), ⟨[], []⟩⟩
def AS_ref10_Valid : Shape := ⟨[(0, (.dat tapi_Node)), (1, (.dat tapi_Span))], []⟩
def AZ_ref10_Valid : Shape := ⟨[(0, (.dat .bool))], []⟩
def AE_ref10_Valid : Ent := ⟨111, AS_ref10_Valid, AZ_ref10_Valid, ref10_Valid⟩
def AF_ref10_Valid : Fx := mkFx Acx (lookupG [AE_ref10_in, AE_ref10_leaf, AE_ref10_pivots, AE_ref10_bound, AE_ref05_Valid, AE_ref10_Inside]) (fun k st => bif Nat.beq k 0 then AL_ref10_Valid_0.go (ref10_Valid_l0) 0 st else bif Nat.beq k 2 then AL_ref10_Valid_1.go (ref10_Valid_l1) 0 st else .fail) 0
theorem ref10_Valid_hG : GSound Tryz.prog (AF_ref10_Valid).Γ := ents_sound ⟨(ref10_in_ox), (ref10_leaf_ox), (ref10_pivots_ox), (ref10_bound_ox), (ref05_Valid_ox), (ref10_Inside_ox), trivial⟩
theorem ref10_Valid_la0 : LamOK Tryz.prog (AF_ref10_Valid) Tryz.f111.ntmps 0 (loopAt (bodyOf Tryz.f111) 0) := Als (L := AL_ref10_Valid_0) (b := ref10_Valid_b0) (m := []) ref10_Valid_hG trivial
theorem ref10_Valid_la1 : LamOK Tryz.prog (AF_ref10_Valid) Tryz.f111.ntmps 2 (loopAt (bodyOf Tryz.f111) 1) := Als (L := AL_ref10_Valid_1) (b := ref10_Valid_b1) (m := []) ref10_Valid_hG trivial
theorem ref10_Valid_ox : AX AE_ref10_Valid := Afs (F := AF_ref10_Valid) (fn := Tryz.f111) (m := [(0, loopAt (bodyOf Tryz.f111) 0), (2, loopAt (bodyOf Tryz.f111) 1)]) ref10_Valid_hG Tryz.func111 ⟨ref10_Valid_la0, ref10_Valid_la1, trivial⟩
def AS_ref02_None : Shape := ⟨[], []⟩
def AZ_ref02_None : Shape := ⟨[(0, (.dat tapi_Span))], []⟩
def AE_ref02_None : Ent := ⟨247, AS_ref02_None, AZ_ref02_None, ref02_None⟩
def AF_ref02_None : Fx := AF0 []
theorem ref02_None_ox : AX AE_ref02_None := Afs (F := AF_ref02_None) (fn := Tryz.f247) (m := []) (ents_sound trivial) Tryz.func247 trivial
def AS_ref02_Meet : Shape := ⟨[(0, (.dat tapi_Span)), (1, (.dat tapi_Span))], []⟩
def AZ_ref02_Meet : Shape := ⟨[(0, (.dat tapi_Span))], []⟩
def AE_ref02_Meet : Ent := ⟨205, AS_ref02_Meet, AZ_ref02_Meet, ref02_Meet⟩
def AF_ref02_Meet : Fx := AF0 [AE_ref02_Empty, AE_ref02_Less, AE_ref02_None]
theorem ref02_Meet_ox : AX AE_ref02_Meet := Afs (F := AF_ref02_Meet) (fn := Tryz.f205) (m := []) (ents_sound ⟨(ref02_Empty_ox), (ref02_Less_ox), (ref02_None_ox), trivial⟩) Tryz.func205 trivial
def AL_ref02_Parts_0 : Lp := ⟨⟨[(1, (.dat (.list .str))), (2, (.ptr 0 tapi_Span 0 [])), (5, (.own tapi_Span 1)), (6, (.dat .str)), (7, (.dat (.int .i64)))], [.box 75 tapi_Span (.dat tapi_Span), .arr 75 tapi_Span false]⟩, (.exit 0), ⟨[(2, (.ptr 0 tapi_Span 0 [])), (5, (.own tapi_Span 1)), (6, (.dat .str))], [.box 75 tapi_Span (.dat tapi_Span), .arr 75 tapi_Span false]⟩, (.exit 80000000), ⟨[], []⟩⟩
def AS_ref02_Parts : Shape := ⟨[(0, (.dat tapi_Span)), (1, (.dat (.list .str)))], []⟩
def AZ_ref02_Parts : Shape := ⟨[(0, (.own tapi_Span 0))], [.arr 75 tapi_Span false]⟩
def AE_ref02_Parts : Ent := ⟨155, AS_ref02_Parts, AZ_ref02_Parts, ref02_Parts⟩
def AF_ref02_Parts : Fx := mkFx Acx (lookupG [AE_ref02_Meet]) (fun k st => bif Nat.beq k 0 then AL_ref02_Parts_0.go (ref02_Parts_l0) 0 st else .fail) 0
theorem ref02_Parts_hG : GSound Tryz.prog (AF_ref02_Parts).Γ := ents_sound ⟨(ref02_Meet_ox), trivial⟩
theorem ref02_Parts_la0 : LamOK Tryz.prog (AF_ref02_Parts) Tryz.f155.ntmps 0 (loopAt (bodyOf Tryz.f155) 0) := Als (L := AL_ref02_Parts_0) (b := ref02_Parts_b0) (m := []) ref02_Parts_hG trivial
theorem ref02_Parts_ox : AX AE_ref02_Parts := Afs (F := AF_ref02_Parts) (fn := Tryz.f155) (m := [(0, loopAt (bodyOf Tryz.f155) 0)]) ref02_Parts_hG Tryz.func155 ⟨ref02_Parts_la0, trivial⟩
def AS_ref10_Spans : Shape := ⟨[(0, (.dat tapi_Node)), (1, (.dat tapi_Span))], []⟩
def AZ_ref10_Spans : Shape := ⟨[(0, (.own tapi_Span 0))], [.arr 75 tapi_Span false]⟩
def AE_ref10_Spans : Ent := ⟨112, AS_ref10_Spans, AZ_ref10_Spans, ref10_Spans⟩
def AF_ref10_Spans : Fx := AF0 [AE_ref02_Parts]
theorem ref10_Spans_ox : AX AE_ref10_Spans := Afs (F := AF_ref10_Spans) (fn := Tryz.f112) (m := []) (ents_sound ⟨(ref02_Parts_ox), trivial⟩) Tryz.func112 trivial
def AS_ref10_Plus : Shape := ⟨[(0, (.dat tapi_Sum)), (1, (.dat tapi_Sum))], []⟩
def AZ_ref10_Plus : Shape := ⟨[(0, (.dat tapi_Sum))], []⟩
def AE_ref10_Plus : Ent := ⟨157, AS_ref10_Plus, AZ_ref10_Plus, ref10_Plus⟩
def AF_ref10_Plus : Fx := AF0 []
theorem ref10_Plus_ox : AX AE_ref10_Plus := Afs (F := AF_ref10_Plus) (fn := Tryz.f157) (m := []) (ents_sound trivial) Tryz.func157 trivial
def AS_ref01_guess : Shape := ⟨[(0, (.dat .str)), (1, (.dat (.int .i64)))], []⟩
def AZ_ref01_guess : Shape := ⟨[(0, (.dat tapi_Place))], []⟩
def AE_ref01_guess : Ent := ⟨233, AS_ref01_guess, AZ_ref01_guess, ref01_guess⟩
def AF_ref01_guess : Fx := AF0 []
theorem ref01_guess_ox : AX AE_ref01_guess := Afs (F := AF_ref01_guess) (fn := Tryz.f233) (m := []) (ents_sound trivial) Tryz.func233 trivial
def AL_ref01_Names_0 : Lp := ⟨⟨[(0, (.dat .str)), (4, (.own .str 0)), (5, (.dat .str)), (6, (.dat (.int .i64)))], [.arr 9 .str false]⟩, (.exit 0), ⟨[(4, (.own .str 0)), (5, (.dat .str))], [.arr 9 .str false]⟩, (.exit 80000000), ⟨[], []⟩⟩
def AS_ref01_Names : Shape := ⟨[(0, (.dat .str))], []⟩
def AZ_ref01_Names : Shape := ⟨[(0, (.own .str 0)), (1, (.dat .bool))], [.arr 9 .str false]⟩
def AE_ref01_Names : Ent := ⟨96, AS_ref01_Names, AZ_ref01_Names, ref01_Names⟩
def AF_ref01_Names : Fx := mkFx Acx (lookupG []) (fun k st => bif Nat.beq k 0 then AL_ref01_Names_0.go (ref01_Names_l0) 0 st else .fail) 0
theorem ref01_Names_hG : GSound Tryz.prog (AF_ref01_Names).Γ := ents_sound trivial
theorem ref01_Names_la0 : LamOK Tryz.prog (AF_ref01_Names) Tryz.f96.ntmps 0 (loopAt (bodyOf Tryz.f96) 0) := Als (L := AL_ref01_Names_0) (b := ref01_Names_b0) (m := []) ref01_Names_hG trivial
theorem ref01_Names_ox : AX AE_ref01_Names := Afs (F := AF_ref01_Names) (fn := Tryz.f96) (m := [(0, loopAt (bodyOf Tryz.f96) 0)]) ref01_Names_hG Tryz.func96 ⟨ref01_Names_la0, trivial⟩
def AL_ref01_Name_0 : Lp := ⟨⟨[(0, (.dat .str)), (3, (.dat (.int .i64)))], []⟩, .ret, ⟨[(2, (.dat .bool))], []⟩, (.exit 0), ⟨[], []⟩⟩
def AS_ref01_Name : Shape := ⟨[(0, (.dat .str))], []⟩
def AZ_ref01_Name : Shape := ⟨[(0, (.dat .bool))], []⟩
def AE_ref01_Name : Ent := ⟨97, AS_ref01_Name, AZ_ref01_Name, ref01_Name⟩
def AF_ref01_Name : Fx := mkFx Acx (lookupG []) (fun k st => bif Nat.beq k 0 then AL_ref01_Name_0.go (ref01_Name_l0) 0 st else .fail) 0
theorem ref01_Name_hG : GSound Tryz.prog (AF_ref01_Name).Γ := ents_sound trivial
theorem ref01_Name_la0 : LamOK Tryz.prog (AF_ref01_Name) Tryz.f97.ntmps 0 (loopAt (bodyOf Tryz.f97) 0) := Als (L := AL_ref01_Name_0) (b := ref01_Name_b0) (m := []) ref01_Name_hG trivial
theorem ref01_Name_ox : AX AE_ref01_Name := Afs (F := AF_ref01_Name) (fn := Tryz.f97) (m := [(0, loopAt (bodyOf Tryz.f97) 0)]) ref01_Name_hG Tryz.func97 ⟨ref01_Name_la0, trivial⟩
def AL_ref01_Valid_0 : Lp := ⟨⟨[(3, (.own .str 0)), (4, (.dat .bool)), (5, (.dat (.int .i64)))], [.arr 9 .str false]⟩, .ret, ⟨[(2, (.dat .bool))], []⟩, (.exit 0), ⟨[(4, (.dat .bool))], []⟩⟩
def AS_ref01_Valid : Shape := ⟨[(0, (.dat .str))], []⟩
def AZ_ref01_Valid : Shape := ⟨[(0, (.dat .bool))], []⟩
def AE_ref01_Valid : Ent := ⟨52, AS_ref01_Valid, AZ_ref01_Valid, ref01_Valid⟩
def AF_ref01_Valid : Fx := mkFx Acx (lookupG [AE_ref01_Names, AE_ref01_Name]) (fun k st => bif Nat.beq k 0 then AL_ref01_Valid_0.go (ref01_Valid_l0) 0 st else .fail) 0
theorem ref01_Valid_hG : GSound Tryz.prog (AF_ref01_Valid).Γ := ents_sound ⟨(ref01_Names_ox), (ref01_Name_ox), trivial⟩
theorem ref01_Valid_la0 : LamOK Tryz.prog (AF_ref01_Valid) Tryz.f52.ntmps 0 (loopAt (bodyOf Tryz.f52) 0) := Als (L := AL_ref01_Valid_0) (b := ref01_Valid_b0) (m := []) ref01_Valid_hG trivial
theorem ref01_Valid_ox : AX AE_ref01_Valid := Afs (F := AF_ref01_Valid) (fn := Tryz.f52) (m := [(0, loopAt (bodyOf Tryz.f52) 0)]) ref01_Valid_hG Tryz.func52 ⟨ref01_Valid_la0, trivial⟩
def AL_ref01_Body_0 : Lp := ⟨⟨[(0, (.dat (.int .i64))), (3, (.dat .str)), (4, (.dat (.int .i64)))], []⟩, (.exit 0), ⟨[(3, (.dat .str))], []⟩, (.exit 80000000), ⟨[], []⟩⟩
def AS_ref01_Body : Shape := ⟨[(0, (.dat (.int .i64)))], []⟩
def AZ_ref01_Body : Shape := ⟨[(0, (.dat .str))], []⟩
def AE_ref01_Body : Ent := ⟨272, AS_ref01_Body, AZ_ref01_Body, ref01_Body⟩
def AF_ref01_Body : Fx := mkFx Acx (lookupG []) (fun k st => bif Nat.beq k 0 then AL_ref01_Body_0.go (ref01_Body_l0) 0 st else .fail) 0
theorem ref01_Body_hG : GSound Tryz.prog (AF_ref01_Body).Γ := ents_sound trivial
theorem ref01_Body_la0 : LamOK Tryz.prog (AF_ref01_Body) Tryz.f272.ntmps 0 (loopAt (bodyOf Tryz.f272) 0) := Als (L := AL_ref01_Body_0) (b := ref01_Body_b0) (m := []) ref01_Body_hG trivial
theorem ref01_Body_ox : AX AE_ref01_Body := Afs (F := AF_ref01_Body) (fn := Tryz.f272) (m := [(0, loopAt (bodyOf Tryz.f272) 0)]) ref01_Body_hG Tryz.func272 ⟨ref01_Body_la0, trivial⟩
def AL_ref01_IsBody_0 : Lp := ⟨⟨[(0, (.dat .str)), (3, (.dat (.int .i64))), (4, (.dat (.int .i64)))], []⟩, (.exit 0), ⟨[(0, (.dat .str)), (3, (.dat (.int .i64)))], []⟩, (.exit 80000000), ⟨[], []⟩⟩
def AS_ref01_IsBody : Shape := ⟨[(0, (.dat .str))], []⟩
def AZ_ref01_IsBody : Shape := ⟨[(0, (.dat .bool))], []⟩
def AE_ref01_IsBody : Ent := ⟨248, AS_ref01_IsBody, AZ_ref01_IsBody, ref01_IsBody⟩
def AF_ref01_IsBody : Fx := mkFx Acx (lookupG [AE_ref01_Body]) (fun k st => bif Nat.beq k 0 then AL_ref01_IsBody_0.go (ref01_IsBody_l0) 0 st else .fail) 0
theorem ref01_IsBody_hG : GSound Tryz.prog (AF_ref01_IsBody).Γ := ents_sound ⟨(ref01_Body_ox), trivial⟩
theorem ref01_IsBody_la0 : LamOK Tryz.prog (AF_ref01_IsBody) Tryz.f248.ntmps 0 (loopAt (bodyOf Tryz.f248) 0) := Als (L := AL_ref01_IsBody_0) (b := ref01_IsBody_b0) (m := []) ref01_IsBody_hG trivial
theorem ref01_IsBody_ox : AX AE_ref01_IsBody := Afs (F := AF_ref01_IsBody) (fn := Tryz.f248) (m := [(0, loopAt (bodyOf Tryz.f248) 0)]) ref01_IsBody_hG Tryz.func248 ⟨ref01_IsBody_la0, trivial⟩

end D
/- Entries, by program. -/
set_option linter.unusedVariables false
set_option maxRecDepth 100000
open Go Go.X Go.Proofs D
namespace D
def AL_ref01_right_c100002 : Lp := ⟨⟨[(1, (.ptr 0 tapi_Place 0 [])), (32, (.dat .bool))], [.box 253 tapi_Place (.dat tapi_Place)]⟩, .nrm, ⟨[(1, (.ptr 0 tapi_Place 0 []))], [.box 253 tapi_Place (.dat tapi_Place)]⟩, .ret, ⟨[(2, (.dat .bool))], []⟩⟩
def AL_ref01_right_c10 : Lp := ⟨⟨[(1, (.ptr 0 tapi_Place 0 []))], [.box 253 tapi_Place (.dat tapi_Place)]⟩, .ret, ⟨[(2, (.dat .bool))], []⟩, (.exit 90000010), ⟨[], []⟩⟩
def AL_ref01_right_c3 : Lp := ⟨⟨[(1, (.ptr 0 tapi_Place 0 []))], [.box 253 tapi_Place (.dat tapi_Place)]⟩, .ret, ⟨[(2, (.dat .bool))], []⟩, (.exit 90000003), ⟨[], []⟩⟩
def AS_ref01_right : Shape := ⟨[(0, (.dat tapi_Place))], []⟩
def AZ_ref01_right : Shape := ⟨[(0, (.dat .bool))], []⟩
def AE_ref01_right : Ent := ⟨266, AS_ref01_right, AZ_ref01_right, ref01_right⟩
def AF_ref01_right : Fx := AF0 [AE_ref01_Name, AE_ref01_Valid, AE_ref01_IsBody]
def AC_ref01_right : Cuts := [(100002, AL_ref01_right_c100002.go (ref01_right_c100002) 0), (10, AL_ref01_right_c10.go (ref01_right_c10) 0), (3, AL_ref01_right_c3.go (ref01_right_c3) 0)]
theorem ref01_right_c100002_eq (s : AL_ref01_right_c100002.S.ty.den) : @Eq (Option AL_ref01_right_c100002.Out) ((evK (AF_ref01_right) (AC_ref01_right) (tailOf (bodyOf Tryz.f266) 100002) 0 (AL_ref01_right_c100002.S.enc s)).bind fun (e, st) => AL_ref01_right_c100002.out (AF_ref01_right).m e st).val (ref01_right_c100002 s) := by kernel_rfl
theorem ref01_right_c10_eq (s : AL_ref01_right_c10.S.ty.den) : @Eq (Option AL_ref01_right_c10.Out) ((evK (AF_ref01_right) (AC_ref01_right) (tailOf (bodyOf Tryz.f266) 10) 0 (AL_ref01_right_c10.S.enc s)).bind fun (e, st) => AL_ref01_right_c10.out (AF_ref01_right).m e st).val (ref01_right_c10 s) := by kernel_rfl
theorem ref01_right_c3_eq (s : AL_ref01_right_c3.S.ty.den) : @Eq (Option AL_ref01_right_c3.Out) ((evK (AF_ref01_right) (AC_ref01_right) (tailOf (bodyOf Tryz.f266) 3) 0 (AL_ref01_right_c3.S.enc s)).bind fun (e, st) => AL_ref01_right_c3.out (AF_ref01_right).m e st).val (ref01_right_c3 s) := by kernel_rfl
theorem ref01_right_eq (s : (AE_ref01_right).S.ty.den) : (evFnK (AF_ref01_right) (AC_ref01_right) Tryz.f266 (AE_ref01_right).S (AE_ref01_right).Z s).val = (AE_ref01_right).g s := by kernel_rfl
theorem ref01_right_hG : GSound Tryz.prog (AF_ref01_right).Γ := ents_sound ⟨(ref01_Name_ox), (ref01_Valid_ox), (ref01_IsBody_ox), trivial⟩
theorem ref01_right_c100002_ok : CutOK Tryz.prog (AF_ref01_right) Tryz.f266.ntmps (AL_ref01_right_c100002.go (ref01_right_c100002) 0) (tailOf (bodyOf Tryz.f266) 100002) :=
  cut_sound Atab (ref01_right_hG) Amixed (L := AL_ref01_right_c100002) (k := 0) (f := ref01_right_c100002) (C := (AC_ref01_right)) (l := []) (m := []) (by kernel_rfl) trivial (by kernel_rfl) trivial (by kernel_rfl) (rfOK_no _ (by kernel_rfl)) (ref01_right_c100002_eq)
theorem ref01_right_c10_ok : CutOK Tryz.prog (AF_ref01_right) Tryz.f266.ntmps (AL_ref01_right_c10.go (ref01_right_c10) 0) (tailOf (bodyOf Tryz.f266) 10) :=
  cut_sound Atab (ref01_right_hG) Amixed (L := AL_ref01_right_c10) (k := 0) (f := ref01_right_c10) (C := (AC_ref01_right)) (l := []) (m := []) (by kernel_rfl) trivial (by kernel_rfl) trivial (by kernel_rfl) (rfOK_no _ (by kernel_rfl)) (ref01_right_c10_eq)
theorem ref01_right_c3_ok : CutOK Tryz.prog (AF_ref01_right) Tryz.f266.ntmps (AL_ref01_right_c3.go (ref01_right_c3) 0) (tailOf (bodyOf Tryz.f266) 3) :=
  cut_sound Atab (ref01_right_hG) Amixed (L := AL_ref01_right_c3) (k := 0) (f := ref01_right_c3) (C := (AC_ref01_right)) (l := []) (m := [(AL_ref01_right_c10.go (ref01_right_c10) 0, tailOf (bodyOf Tryz.f266) 10)]) (by kernel_rfl) trivial (by kernel_rfl) ⟨ref01_right_c10_ok, trivial⟩ (by kernel_rfl) (rfOK_no _ (by kernel_rfl)) (ref01_right_c3_eq)
theorem ref01_right_ok : EntOK Tryz.prog (AE_ref01_right) :=
  fun_soundK (C := (AC_ref01_right)) (F := (AF_ref01_right)) Atab (ref01_right_hG) Amixed (fn := Tryz.f266) (l := []) (m := [(AL_ref01_right_c100002.go (ref01_right_c100002) 0, tailOf (bodyOf Tryz.f266) 100002), (AL_ref01_right_c3.go (ref01_right_c3) 0, tailOf (bodyOf Tryz.f266) 3)]) Tryz.func266 (by kernel_rfl) (by kernel_rfl) (by kernel_rfl) trivial (by kernel_rfl) ⟨ref01_right_c100002_ok, ref01_right_c3_ok, trivial⟩ (rfOK_no _ (by kernel_rfl)) (by kernel_rfl) (ref01_right_eq)
theorem ref01_right_ox : AX (AE_ref01_right) := (ref01_right_ok).x (by kernel_rfl)
def AS_ref01_Key : Shape := ⟨[(0, (.dat tapi_Place))], []⟩
def AZ_ref01_Key : Shape := ⟨[(0, (.dat .str)), (1, (.dat (.int .i64)))], []⟩
def AE_ref01_Key : Ent := ⟨234, AS_ref01_Key, AZ_ref01_Key, ref01_Key⟩
def AF_ref01_Key : Fx := AF0 [AE_ref01_right]
theorem ref01_Key_ox : AX AE_ref01_Key := Afs (F := AF_ref01_Key) (fn := Tryz.f234) (m := []) (ents_sound ⟨(ref01_right_ox), trivial⟩) Tryz.func234 trivial
def AL_ref01_Place_0 : Lp := ⟨⟨[(0, (.dat .str)), (2, (.ptr 0 tapi_Place 0 [])), (4, (.dat (.int .i64)))], [.box 253 tapi_Place (.agg [(.dat .str), (.dat (.int .i64)), (.dat (.int .i64)), (.dat .str)])]⟩, .ret, ⟨[(2, (.ptr 0 tapi_Place 0 [])), (3, (.dat (.int .i64)))], [.box 253 tapi_Place (.dat tapi_Place)]⟩, (.exit 0), ⟨[(2, (.ptr 0 tapi_Place 0 []))], [.box 253 tapi_Place (.agg [(.dat .str), (.dat (.int .i64)), (.dat (.int .i64)), (.dat .str)])]⟩⟩
def AS_ref01_Place : Shape := ⟨[(0, (.dat .str))], []⟩
def AZ_ref01_Place : Shape := ⟨[(0, (.dat tapi_Place)), (1, (.dat (.int .i64)))], []⟩
def AE_ref01_Place : Ent := ⟨190, AS_ref01_Place, AZ_ref01_Place, ref01_Place⟩
def AF_ref01_Place : Fx := mkFx Acx (lookupG [AE_ref01_guess, AE_ref01_Key]) (fun k st => bif Nat.beq k 0 then AL_ref01_Place_0.go (ref01_Place_l0) 0 st else .fail) 0
theorem ref01_Place_hG : GSound Tryz.prog (AF_ref01_Place).Γ := ents_sound ⟨(ref01_guess_ox), (ref01_Key_ox), trivial⟩
theorem ref01_Place_la0 : LamOK Tryz.prog (AF_ref01_Place) Tryz.f190.ntmps 0 (loopAt (bodyOf Tryz.f190) 0) := Als (L := AL_ref01_Place_0) (b := ref01_Place_b0) (m := []) ref01_Place_hG trivial
theorem ref01_Place_ox : AX AE_ref01_Place := Afs (F := AF_ref01_Place) (fn := Tryz.f190) (m := [(0, loopAt (bodyOf Tryz.f190) 0)]) ref01_Place_hG Tryz.func190 ⟨ref01_Place_la0, trivial⟩
def AS_ref10_isEntry : Shape := ⟨[(0, (.dat .str))], []⟩
def AZ_ref10_isEntry : Shape := ⟨[(0, (.dat .bool))], []⟩
def AE_ref10_isEntry : Ent := ⟨206, AS_ref10_isEntry, AZ_ref10_isEntry, ref10_isEntry⟩
def AF_ref10_isEntry : Fx := AF0 [AE_ref01_Place]
theorem ref10_isEntry_ox : AX AE_ref10_isEntry := Afs (F := AF_ref10_isEntry) (fn := Tryz.f206) (m := []) (ents_sound ⟨(ref01_Place_ox), trivial⟩) Tryz.func206 trivial
def AS_ref10_higher : Shape := ⟨[(0, (.dat tapi_Use)), (1, (.dat (.int .i64)))], []⟩
def AZ_ref10_higher : Shape := ⟨[(0, (.dat tapi_Use))], []⟩
def AE_ref10_higher : Ent := ⟨207, AS_ref10_higher, AZ_ref10_higher, ref10_higher⟩
def AF_ref10_higher : Fx := AF0 []
theorem ref10_higher_ox : AX AE_ref10_higher := Afs (F := AF_ref10_higher) (fn := Tryz.f207) (m := []) (ents_sound trivial) Tryz.func207 trivial
def AS_ref10_lower : Shape := ⟨[(0, (.dat tapi_Use)), (1, (.dat (.int .i64)))], []⟩
def AZ_ref10_lower : Shape := ⟨[(0, (.dat tapi_Use))], []⟩
def AE_ref10_lower : Ent := ⟨208, AS_ref10_lower, AZ_ref10_lower, ref10_lower⟩
def AF_ref10_lower : Fx := AF0 []
theorem ref10_lower_ox : AX AE_ref10_lower := Afs (F := AF_ref10_lower) (fn := Tryz.f208) (m := []) (ents_sound trivial) Tryz.func208 trivial
def AS_ref10_Alike : Shape := ⟨[(0, (.dat .str)), (1, (.dat .str))], []⟩
def AZ_ref10_Alike : Shape := ⟨[(0, (.dat .bool))], []⟩
def AE_ref10_Alike : Ent := ⟨209, AS_ref10_Alike, AZ_ref10_Alike, ref10_Alike⟩
def AF_ref10_Alike : Fx := AF0 [AE_ref01_Valid, AE_ref01_IsBody]
theorem ref10_Alike_ox : AX AE_ref10_Alike := Afs (F := AF_ref10_Alike) (fn := Tryz.f209) (m := []) (ents_sound ⟨(ref01_Valid_ox), (ref01_IsBody_ox), trivial⟩) Tryz.func209 trivial
def AS_ref10_change : Shape := ⟨[(0, (.dat tapi_Sum)), (1, (.dat tapi_Msg))], []⟩
def AZ_ref10_change : Shape := ⟨[(0, (.dat tapi_Sum))], []⟩
def AE_ref10_change : Ent := ⟨158, AS_ref10_change, AZ_ref10_change, ref10_change⟩
def AF_ref10_change : Fx := AF0 [AE_ref10_isEntry, AE_ref10_higher, AE_ref10_lower, AE_ref10_Alike]
theorem ref10_change_ox : AX AE_ref10_change := Afs (F := AF_ref10_change) (fn := Tryz.f158) (m := []) (ents_sound ⟨(ref10_isEntry_ox), (ref10_higher_ox), (ref10_lower_ox), (ref10_Alike_ox), trivial⟩) Tryz.func158 trivial
def AS_ref03_Charge : Shape := ⟨[(0, (.dat tapi_Pair))], []⟩
def AZ_ref03_Charge : Shape := ⟨[(0, (.dat tapi_Use))], []⟩
def AE_ref03_Charge : Ent := ⟨136, AS_ref03_Charge, AZ_ref03_Charge, ref03_Charge⟩
def AF_ref03_Charge : Fx := AF0 [AE_ref01_Place]
theorem ref03_Charge_ox : AX AE_ref03_Charge := Afs (F := AF_ref03_Charge) (fn := Tryz.f136) (m := []) (ents_sound ⟨(ref01_Place_ox), trivial⟩) Tryz.func136 trivial
def AL_ref03_Total_0 : Lp := ⟨⟨[(0, (.dat (.list tapi_Pair))), (2, (.ptr 0 tapi_Use 0 [])), (3, (.ptr 1 tapi_Use 0 [])), (4, (.dat (.int .i64)))], [.box 32 tapi_Use (.agg [(.dat (.int .i64)), (.dat (.int .i64))]), .box 32 tapi_Use (.agg [(.dat (.int .i64)), (.dat (.int .i64))])]⟩, (.exit 0), ⟨[(2, (.ptr 0 tapi_Use 0 [])), (3, (.ptr 1 tapi_Use 0 []))], [.box 32 tapi_Use (.agg [(.dat (.int .i64)), (.dat (.int .i64))]), .box 32 tapi_Use (.agg [(.dat (.int .i64)), (.dat (.int .i64))])]⟩, (.exit 80000000), ⟨[], []⟩⟩
def AS_ref03_Total : Shape := ⟨[(0, (.dat (.list tapi_Pair)))], []⟩
def AZ_ref03_Total : Shape := ⟨[(0, (.dat tapi_Use))], []⟩
def AE_ref03_Total : Ent := ⟨93, AS_ref03_Total, AZ_ref03_Total, ref03_Total⟩
def AF_ref03_Total : Fx := mkFx Acx (lookupG [AE_ref03_Charge]) (fun k st => bif Nat.beq k 0 then AL_ref03_Total_0.go (ref03_Total_l0) 0 st else .fail) 0
theorem ref03_Total_hG : GSound Tryz.prog (AF_ref03_Total).Γ := ents_sound ⟨(ref03_Charge_ox), trivial⟩
theorem ref03_Total_la0 : LamOK Tryz.prog (AF_ref03_Total) Tryz.f93.ntmps 0 (loopAt (bodyOf Tryz.f93) 0) := Als (L := AL_ref03_Total_0) (b := ref03_Total_b0) (m := []) ref03_Total_hG trivial
theorem ref03_Total_ox : AX AE_ref03_Total := Afs (F := AF_ref03_Total) (fn := Tryz.f93) (m := [(0, loopAt (bodyOf Tryz.f93) 0)]) ref03_Total_hG Tryz.func93 ⟨ref03_Total_la0, trivial⟩
def AS_ref10_Exact : Shape := ⟨[(0, (.dat tapi_Use))], []⟩
def AZ_ref10_Exact : Shape := ⟨[(0, (.dat tapi_Sum))], []⟩
def AE_ref10_Exact : Ent := ⟨156, AS_ref10_Exact, AZ_ref10_Exact, ref10_Exact⟩
def AF_ref10_Exact : Fx := AF0 []
theorem ref10_Exact_ox : AX AE_ref10_Exact := Afs (F := AF_ref10_Exact) (fn := Tryz.f156) (m := []) (ents_sound trivial) Tryz.func156 trivial
def AL_ref10_Sum_0 : Lp := ⟨⟨[(1, (.ptr 0 tapi_Node 0 [])), (2, (.ptr 1 tapi_Sum 0 [])), (3, (.ptr 2 tapi_Sum 0 [])), (4, (.dat (.int .i64)))], [.box 100 tapi_Node (.dat tapi_Node), .box 164 tapi_Sum (.agg [(.agg [(.dat (.int .i64)), (.dat (.int .i64))]), (.agg [(.dat (.int .i64)), (.dat (.int .i64))])]), .box 164 tapi_Sum (.dat tapi_Sum)]⟩, (.exit 0), ⟨[(1, (.ptr 0 tapi_Node 0 [])), (2, (.ptr 1 tapi_Sum 0 [])), (3, (.ptr 2 tapi_Sum 0 []))], [.box 100 tapi_Node (.dat tapi_Node), .box 164 tapi_Sum (.agg [(.agg [(.dat (.int .i64)), (.dat (.int .i64))]), (.agg [(.dat (.int .i64)), (.dat (.int .i64))])]), .box 164 tapi_Sum (.dat tapi_Sum)]⟩, (.exit 80000000), ⟨[], []⟩⟩
def AL_ref10_Sum_1 : Lp := ⟨⟨[(1, (.ptr 0 tapi_Node 0 [])), (2, (.ptr 1 tapi_Sum 0 [])), (3, (.ptr 2 tapi_Sum 0 [])), (5, (.dat (.int .i64)))], [.box 100 tapi_Node (.dat tapi_Node), .box 164 tapi_Sum (.agg [(.agg [(.dat (.int .i64)), (.dat (.int .i64))]), (.agg [(.dat (.int .i64)), (.dat (.int .i64))])]), .box 164 tapi_Sum (.dat tapi_Sum)]⟩, (.exit 2), ⟨[(2, (.ptr 0 tapi_Sum 0 [])), (3, (.ptr 1 tapi_Sum 0 []))], [.box 164 tapi_Sum (.agg [(.agg [(.dat (.int .i64)), (.dat (.int .i64))]), (.agg [(.dat (.int .i64)), (.dat (.int .i64))])]), .box 164 tapi_Sum (.dat tapi_Sum)]⟩, (.exit 80000002), ⟨[], []⟩⟩
def AS_ref10_Sum : Shape := ⟨[(0, (.dat tapi_Node))], []⟩
def AZ_ref10_Sum : Shape := ⟨[(0, (.dat tapi_Sum))], []⟩
def AE_ref10_Sum : Ent := ⟨113, AS_ref10_Sum, AZ_ref10_Sum, ref10_Sum⟩
def AF_ref10_Sum : Fx := mkFx Acx (lookupG [AE_ref10_Plus, AE_ref10_change, AE_ref03_Total, AE_ref10_Exact]) (fun k st => bif Nat.beq k 0 then AL_ref10_Sum_0.go (ref10_Sum_l0) 0 st else bif Nat.beq k 2 then AL_ref10_Sum_1.go (ref10_Sum_l1) 0 st else .fail) 0
theorem ref10_Sum_hG : GSound Tryz.prog (AF_ref10_Sum).Γ := ents_sound ⟨(ref10_Plus_ox), (ref10_change_ox), (ref03_Total_ox), (ref10_Exact_ox), trivial⟩
theorem ref10_Sum_la0 : LamOK Tryz.prog (AF_ref10_Sum) Tryz.f113.ntmps 0 (loopAt (bodyOf Tryz.f113) 0) := Als (L := AL_ref10_Sum_0) (b := ref10_Sum_b0) (m := []) ref10_Sum_hG trivial
theorem ref10_Sum_la1 : LamOK Tryz.prog (AF_ref10_Sum) Tryz.f113.ntmps 2 (loopAt (bodyOf Tryz.f113) 1) := Als (L := AL_ref10_Sum_1) (b := ref10_Sum_b1) (m := []) ref10_Sum_hG trivial
theorem ref10_Sum_ox : AX AE_ref10_Sum := Afs (F := AF_ref10_Sum) (fn := Tryz.f113) (m := [(0, loopAt (bodyOf Tryz.f113) 0), (2, loopAt (bodyOf Tryz.f113) 1)]) ref10_Sum_hG Tryz.func113 ⟨ref10_Sum_la0, ref10_Sum_la1, trivial⟩
def AL_ref12_level_0 : Lp := ⟨⟨[(3, (.dat (.int .i64))), (4, (.ptr 0 tapi_Pool 0 [])), (9, (.ptr 1 tapi_Node 0 [])), (11, (.own tapi_Span 2)), (12, (.dat (.int .i64))), (13, (.dat (.int .i64)))], [.box 39 tapi_Pool (.dat tapi_Pool), .box 100 tapi_Node (.dat tapi_Node), .arr 75 tapi_Span false]⟩, .ret, ⟨[(8, (.dat (.int .i64)))], []⟩, (.exit 0), ⟨[(12, (.dat (.int .i64)))], []⟩⟩
def AE_ref12_level : Ent := ⟨67, AS_ref12_level, AZ_ref12_level, ref12_level⟩
def AF_ref12_level (ref12_level_r : ((api_Pool) × (Int) × (api_Span) × (Int) × Unit) → Option ((Int) × Unit)) : Fx := mkFx Acx (lookupG [(AE_ref12_level_r ref12_level_r), AE_ref11_Get, AE_ref10_Valid, AE_ref10_Spans, AE_ref10_Sum]) (fun k st => bif Nat.beq k 0 then AL_ref12_level_0.go (ref12_level_l0 ref12_level_r) 0 st else .fail) 0
theorem ref12_level_b0_eq (ref12_level_r : ((api_Pool) × (Int) × (api_Span) × (Int) × Unit) → Option ((Int) × Unit)) (s : AL_ref12_level_0.S.ty.den) : @Eq (Option (AL_ref12_level_0.S.ty.den ⊕ AL_ref12_level_0.Out)) (AL_ref12_level_0.body (AF_ref12_level ref12_level_r) (loopAt (bodyOf Tryz.f67) 0) 0 s).val (ref12_level_b0 ref12_level_r s) := by kernel_rfl
theorem ref12_level_eq (ref12_level_r : ((api_Pool) × (Int) × (api_Span) × (Int) × Unit) → Option ((Int) × Unit)) (s : AS_ref12_level.ty.den) : @Eq (Option AZ_ref12_level.ty.den) (evFn (AF_ref12_level ref12_level_r) Tryz.f67 AS_ref12_level AZ_ref12_level s).val (ref12_level_step ref12_level_r s) := by kernel_rfl
theorem ref12_level_hG (ref12_level_r : ((api_Pool) × (Int) × (api_Span) × (Int) × Unit) → Option ((Int) × Unit)) (ref12_level_r_ok : EntOK Tryz.prog (AE_ref12_level_r ref12_level_r)) : GSound Tryz.prog (AF_ref12_level ref12_level_r).Γ := ents_sound ⟨(ref12_level_r_ok.x (by kernel_rfl)), (ref11_Get_ox), (ref10_Valid_ox), (ref10_Spans_ox), (ref10_Sum_ox), trivial⟩
theorem ref12_level_la0 (ref12_level_r : ((api_Pool) × (Int) × (api_Span) × (Int) × Unit) → Option ((Int) × Unit)) (ref12_level_r_ok : EntOK Tryz.prog (AE_ref12_level_r ref12_level_r)) : LamOK Tryz.prog (AF_ref12_level ref12_level_r) Tryz.f67.ntmps 0 (loopAt (bodyOf Tryz.f67) 0) :=
  lam_sound Atab (ref12_level_hG ref12_level_r ref12_level_r_ok) Amixed (L := AL_ref12_level_0) (f := ref12_level_l0 ref12_level_r) (b := ref12_level_b0 ref12_level_r) (m := []) (fun _ => rfl) (by kernel_rfl) (by kernel_rfl) trivial (by kernel_rfl) (rfOK_no _ (by kernel_rfl)) (ref12_level_b0_eq ref12_level_r)
theorem ref12_level_step_ok (ref12_level_r : ((api_Pool) × (Int) × (api_Span) × (Int) × Unit) → Option ((Int) × Unit)) (ref12_level_r_ok : EntOK Tryz.prog (AE_ref12_level_r ref12_level_r)) : EntOK Tryz.prog ⟨67, AS_ref12_level, AZ_ref12_level, ref12_level_step ref12_level_r⟩ :=
  fun_sound (F := (AF_ref12_level ref12_level_r)) Atab (ref12_level_hG ref12_level_r ref12_level_r_ok) Amixed (fn := Tryz.f67) (m := [(0, loopAt (bodyOf Tryz.f67) 0)]) Tryz.func67 (by kernel_rfl) (by kernel_rfl) (by kernel_rfl) ⟨ref12_level_la0 ref12_level_r ref12_level_r_ok, trivial⟩ (rfOK_no _ (by kernel_rfl)) (by kernel_rfl) (ref12_level_eq ref12_level_r)
theorem ref12_level_fuel_ok : ∀ n, EntOK Tryz.prog ⟨67, AS_ref12_level, AZ_ref12_level, ref12_level_fuel n⟩
  | 0 => ent_none
  | n + 1 => ref12_level_step_ok _ (ref12_level_fuel_ok n)
theorem ref12_level_ok : EntOK Tryz.prog (AE_ref12_level) := ref12_level_fuel_ok huge
theorem ref12_level_ox : AX (AE_ref12_level) := (ref12_level_ok).x (by kernel_rfl)
def AS_ref12_Valid : Shape := ⟨[(0, (.dat tapi_Tree))], []⟩
def AZ_ref12_Valid : Shape := ⟨[(0, (.dat .bool))], []⟩
def AE_ref12_Valid : Ent := ⟨35, AS_ref12_Valid, AZ_ref12_Valid, ref12_Valid⟩
def AF_ref12_Valid : Fx := AF0 [AE_ref12_Right, AE_ref12_level]
theorem ref12_Valid_ok : EntOK Tryz.prog AE_ref12_Valid := Afk (F := AF_ref12_Valid) (fn := Tryz.f35) (m := []) (ents_sound ⟨(ref12_Right_ox), (ref12_level_ox), trivial⟩) Tryz.func35 trivial
def AS_internal_stringslite_IndexByte : Shape := ⟨[(0, (.dat .str)), (1, (.dat (.int .u8)))], []⟩
def AZ_internal_stringslite_IndexByte : Shape := ⟨[(0, (.dat (.int .i64)))], []⟩
def AE_internal_stringslite_IndexByte : Ent := ⟨249, AS_internal_stringslite_IndexByte, AZ_internal_stringslite_IndexByte, internal_stringslite_IndexByte⟩
set_option maxHeartbeats 1000000 in
theorem internal_stringslite_IndexByte_calls (a : ByteArray) (c : Int) (w : World) : Calls Tryz.prog 249 #[.string a, .int .u8 c] w fun e w' => e = .returned (.int .i64 (Lib.indexByte a.data.toList c.toNat.toUInt8)) ∧ w' = w := by
  go_enter Tryz.func249, Tryz.ntmps249
  go_wp2
  rw [run_callFunc_extern Tryz.func273 (by kernel_rfl) (by kernel_rfl) (by kernel_rfl) (e := Extern.BytealgIndexByte.indexByte) (by kernel_rfl), Lib.run_indexByteString]
  simp only [Result.andThen]
  rw [Oper.upon_value]
  go_wp2
  go_ret
  exact ⟨rfl, rfl⟩
theorem internal_stringslite_IndexByte_ok : EntOK Tryz.prog AE_internal_stringslite_IndexByte := ext_sb (g := fun a c => Lib.indexByte a c.toNat.toUInt8) Tryz.func249 (by kernel_rfl) internal_stringslite_IndexByte_calls
theorem internal_stringslite_IndexByte_ox : AX AE_internal_stringslite_IndexByte := internal_stringslite_IndexByte_ok.x (by kernel_rfl)
def AS_internal_stringslite_Index : Shape := ⟨[(0, (.dat .str)), (1, (.dat .str))], []⟩
def AZ_internal_stringslite_Index : Shape := ⟨[(0, (.dat (.int .i64)))], []⟩
def AE_internal_stringslite_Index : Ent := ⟨210, AS_internal_stringslite_Index, AZ_internal_stringslite_Index, internal_stringslite_Index⟩
def AF_internal_stringslite_Index : Fx := AF0 [AE_internal_stringslite_IndexByte]
theorem internal_stringslite_Index_la0 : LamOK Tryz.prog (AF_internal_stringslite_Index) Tryz.f210.ntmps 1 (loopAt (bodyOf Tryz.f210) 0) := lam_none (fun _ => rfl)
theorem internal_stringslite_Index_ox : AX AE_internal_stringslite_Index := Afs (F := AF_internal_stringslite_Index) (fn := Tryz.f210) (m := [(1, loopAt (bodyOf Tryz.f210) 0)]) (ents_sound ⟨(internal_stringslite_IndexByte_ox), trivial⟩) Tryz.func210 ⟨internal_stringslite_Index_la0, trivial⟩
def AS_internal_stringslite_Cut : Shape := ⟨[(0, (.dat .str)), (1, (.dat .str))], []⟩
def AZ_internal_stringslite_Cut : Shape := ⟨[(0, (.dat .str)), (1, (.dat .str)), (2, (.dat .bool))], []⟩
def AE_internal_stringslite_Cut : Ent := ⟨161, AS_internal_stringslite_Cut, AZ_internal_stringslite_Cut, internal_stringslite_Cut⟩
def AF_internal_stringslite_Cut : Fx := AF0 [AE_internal_stringslite_Index]
theorem internal_stringslite_Cut_ox : AX AE_internal_stringslite_Cut := Afs (F := AF_internal_stringslite_Cut) (fn := Tryz.f161) (m := []) (ents_sound ⟨(internal_stringslite_Index_ox), trivial⟩) Tryz.func161 trivial
def AS_strings_Cut : Shape := ⟨[(0, (.dat .str)), (1, (.dat .str))], []⟩
def AZ_strings_Cut : Shape := ⟨[(0, (.dat .str)), (1, (.dat .str)), (2, (.dat .bool))], []⟩
def AE_strings_Cut : Ent := ⟨122, AS_strings_Cut, AZ_strings_Cut, strings_Cut⟩
def AF_strings_Cut : Fx := AF0 [AE_internal_stringslite_Cut]
theorem strings_Cut_ox : AX AE_strings_Cut := Afs (F := AF_strings_Cut) (fn := Tryz.f122) (m := []) (ents_sound ⟨(internal_stringslite_Cut_ox), trivial⟩) Tryz.func122 trivial
def AS_path_isNameC1 : Shape := ⟨[(0, (.dat (.int .i32)))], []⟩
def AZ_path_isNameC1 : Shape := ⟨[(0, (.dat .bool))], []⟩
def AE_path_isNameC1 : Ent := ⟨163, AS_path_isNameC1, AZ_path_isNameC1, path_isNameC1⟩
def AF_path_isNameC1 : Fx := AF0 []
theorem path_isNameC1_ox : AX AE_path_isNameC1 := Afs (F := AF_path_isNameC1) (fn := Tryz.f163) (m := []) (ents_sound trivial) Tryz.func163 trivial
def AL_strings_indexFunc_0 : Lp := ⟨⟨[(1, (.fn 163 [] [])), (2, (.dat .bool)), (10, (.ptr 0 .unit 0 []))], [.iter]⟩, .ret, ⟨[(6, (.dat (.int .i64)))], []⟩, (.exit 0), ⟨[], []⟩⟩
def AS_strings_indexFunc : Shape := ⟨[(0, (.dat .str)), (1, (.fn 163 [] [])), (2, (.dat .bool))], []⟩
def AZ_strings_indexFunc : Shape := ⟨[(0, (.dat (.int .i64)))], []⟩
def AE_strings_indexFunc : Ent := ⟨211, AS_strings_indexFunc, AZ_strings_indexFunc, strings_indexFunc⟩
def AF_strings_indexFunc : Fx := mkFx Acx (lookupG [AE_path_isNameC1]) (fun k st => bif Nat.beq k 0 then AL_strings_indexFunc_0.go (strings_indexFunc_l0) 0 st else .fail) 0
theorem strings_indexFunc_hG : GSound Tryz.prog (AF_strings_indexFunc).Γ := ents_sound ⟨(path_isNameC1_ox), trivial⟩
theorem strings_indexFunc_la0 : LamOK Tryz.prog (AF_strings_indexFunc) Tryz.f211.ntmps 0 (loopAt (bodyOf Tryz.f211) 0) := Als (L := AL_strings_indexFunc_0) (b := strings_indexFunc_b0) (m := []) strings_indexFunc_hG trivial
theorem strings_indexFunc_ox : AX AE_strings_indexFunc := Afs (F := AF_strings_indexFunc) (fn := Tryz.f211) (m := [(0, loopAt (bodyOf Tryz.f211) 0)]) strings_indexFunc_hG Tryz.func211 ⟨strings_indexFunc_la0, trivial⟩
def AS_strings_IndexFunc : Shape := ⟨[(0, (.dat .str)), (1, (.fn 163 [] []))], []⟩
def AZ_strings_IndexFunc : Shape := ⟨[(0, (.dat (.int .i64)))], []⟩
def AE_strings_IndexFunc : Ent := ⟨162, AS_strings_IndexFunc, AZ_strings_IndexFunc, strings_IndexFunc⟩
def AF_strings_IndexFunc : Fx := AF0 [AE_strings_indexFunc]
theorem strings_IndexFunc_ox : AX AE_strings_IndexFunc := Afs (F := AF_strings_IndexFunc) (fn := Tryz.f162) (m := []) (ents_sound ⟨(strings_indexFunc_ox), trivial⟩) Tryz.func162 trivial
def AS_path_isName : Shape := ⟨[(0, (.dat .str))], []⟩
def AZ_path_isName : Shape := ⟨[(0, (.dat .bool))], []⟩
def AE_path_isName : Ent := ⟨123, AS_path_isName, AZ_path_isName, path_isName⟩
def AF_path_isName : Fx := AF0 [AE_strings_IndexFunc]
theorem path_isName_ox : AX AE_path_isName := Afs (F := AF_path_isName) (fn := Tryz.f123) (m := []) (ents_sound ⟨(strings_IndexFunc_ox), trivial⟩) Tryz.func123 trivial
def AL_path_Valid_0 : Lp := ⟨⟨[(0, (.dat .str))], []⟩, .ret, ⟨[(2, (.dat .bool))], []⟩, (.exit 0), ⟨[], []⟩⟩
def AS_path_Valid : Shape := ⟨[(0, (.dat .str))], []⟩
def AZ_path_Valid : Shape := ⟨[(0, (.dat .bool))], []⟩
def AE_path_Valid : Ent := ⟨75, AS_path_Valid, AZ_path_Valid, path_Valid⟩
def AF_path_Valid : Fx := mkFx Acx (lookupG [AE_strings_Cut, AE_path_isName]) (fun k st => bif Nat.beq k 0 then AL_path_Valid_0.go (path_Valid_l0) 0 st else .fail) 0
theorem path_Valid_hG : GSound Tryz.prog (AF_path_Valid).Γ := ents_sound ⟨(strings_Cut_ox), (path_isName_ox), trivial⟩
theorem path_Valid_la0 : LamOK Tryz.prog (AF_path_Valid) Tryz.f75.ntmps 0 (loopAt (bodyOf Tryz.f75) 0) := Als (L := AL_path_Valid_0) (b := path_Valid_b0) (m := []) path_Valid_hG trivial
theorem path_Valid_ox : AX AE_path_Valid := Afs (F := AF_path_Valid) (fn := Tryz.f75) (m := [(0, loopAt (bodyOf Tryz.f75) 0)]) path_Valid_hG Tryz.func75 ⟨path_Valid_la0, trivial⟩
def AS_decide_most : Shape := ⟨[(0, (.dat tapi_Use)), (1, (.dat tapi_Use))], []⟩
def AZ_decide_most : Shape := ⟨[(0, (.dat .bool))], []⟩
def AE_decide_most : Ent := ⟨76, AS_decide_most, AZ_decide_most, decide_most⟩
def AF_decide_most : Fx := AF0 []
theorem decide_most_ox : AX AE_decide_most := Afs (F := AF_decide_most) (fn := Tryz.f76) (m := []) (ents_sound trivial) Tryz.func76 trivial
def AS_decide_right : Shape := ⟨[(0, (.dat tapi_Hold))], []⟩
def AZ_decide_right : Shape := ⟨[(0, (.dat .bool))], []⟩
def AE_decide_right : Ent := ⟨40, AS_decide_right, AZ_decide_right, decide_right⟩
def AF_decide_right : Fx := AF0 [AE_path_Valid, AE_decide_most]
theorem decide_right_ox : AX AE_decide_right := Afs (F := AF_decide_right) (fn := Tryz.f40) (m := []) (ents_sound ⟨(path_Valid_ox), (decide_most_ox), trivial⟩) Tryz.func40 trivial
def AS_decide_findC1 : Shape := ⟨[(0, (.dat tapi_Hold)), (1, (.ptr 0 (.int .i64) 0 []))], [.box 3 (.int .i64) (.dat (.int .i64))]⟩
def AZ_decide_findC1 : Shape := ⟨[(0, (.dat .bool))], [.box 3 (.int .i64) (.dat (.int .i64))]⟩
def AE_decide_findC1 : Ent := ⟨78, AS_decide_findC1, AZ_decide_findC1, decide_findC1⟩
def AF_decide_findC1 : Fx := mkFx Acx (lookupG []) (fun k st => .fail) 1
theorem decide_findC1_ox : AX AE_decide_findC1 := Afs (F := AF_decide_findC1) (fn := Tryz.f78) (m := []) (ents_sound trivial) Tryz.func78 trivial
def AL_slices_IndexFunc_api_Hold_api_Hold_0 : Lp := ⟨⟨[(0, (.dat (.list tapi_Hold))), (1, (.fn 78 [] [(.ptr 0 (.int .i64) 0 [])])), (7, (.dat (.int .i64))), (8, (.dat (.int .i64)))], [.box 3 (.int .i64) (.dat (.int .i64))]⟩, .ret, ⟨[(4, (.dat (.int .i64)))], [.box 3 (.int .i64) (.dat (.int .i64))]⟩, (.exit 0), ⟨[], [.box 3 (.int .i64) (.dat (.int .i64))]⟩⟩
def AS_slices_IndexFunc_api_Hold_api_Hold : Shape := ⟨[(0, (.dat (.list tapi_Hold))), (1, (.fn 78 [] [(.ptr 0 (.int .i64) 0 [])]))], [.box 3 (.int .i64) (.dat (.int .i64))]⟩
def AZ_slices_IndexFunc_api_Hold_api_Hold : Shape := ⟨[(0, (.dat (.int .i64)))], [.box 3 (.int .i64) (.dat (.int .i64))]⟩
def AE_slices_IndexFunc_api_Hold_api_Hold : Ent := ⟨77, AS_slices_IndexFunc_api_Hold_api_Hold, AZ_slices_IndexFunc_api_Hold_api_Hold, slices_IndexFunc_api_Hold_api_Hold⟩
def AF_slices_IndexFunc_api_Hold_api_Hold : Fx := mkFx Acx (lookupG [AE_decide_findC1]) (fun k st => bif Nat.beq k 0 then AL_slices_IndexFunc_api_Hold_api_Hold_0.go (slices_IndexFunc_api_Hold_api_Hold_l0) 1 st else .fail) 1
theorem slices_IndexFunc_api_Hold_api_Hold_hG : GSound Tryz.prog (AF_slices_IndexFunc_api_Hold_api_Hold).Γ := ents_sound ⟨(decide_findC1_ox), trivial⟩
theorem slices_IndexFunc_api_Hold_api_Hold_la0 : LamOK Tryz.prog (AF_slices_IndexFunc_api_Hold_api_Hold) Tryz.f77.ntmps 0 (loopAt (bodyOf Tryz.f77) 0) := Als (L := AL_slices_IndexFunc_api_Hold_api_Hold_0) (b := slices_IndexFunc_api_Hold_api_Hold_b0) (m := []) slices_IndexFunc_api_Hold_api_Hold_hG trivial
theorem slices_IndexFunc_api_Hold_api_Hold_ox : AX AE_slices_IndexFunc_api_Hold_api_Hold := Afs (F := AF_slices_IndexFunc_api_Hold_api_Hold) (fn := Tryz.f77) (m := [(0, loopAt (bodyOf Tryz.f77) 0)]) slices_IndexFunc_api_Hold_api_Hold_hG Tryz.func77 ⟨slices_IndexFunc_api_Hold_api_Hold_la0, trivial⟩
def AS_decide_find : Shape := ⟨[(0, (.dat (.list tapi_Hold))), (1, (.dat (.int .i64)))], []⟩
def AZ_decide_find : Shape := ⟨[(0, (.dat (.int .i64)))], []⟩
def AE_decide_find : Ent := ⟨41, AS_decide_find, AZ_decide_find, decide_find⟩
def AF_decide_find : Fx := AF0 [AE_slices_IndexFunc_api_Hold_api_Hold]
theorem decide_find_ox : AX AE_decide_find := Afs (F := AF_decide_find) (fn := Tryz.f41) (m := []) (ents_sound ⟨(slices_IndexFunc_api_Hold_api_Hold_ox), trivial⟩) Tryz.func41 trivial
def AS_slices_Clip_api_Hold_api_Hold : Shape := ⟨[(0, (.dat (.list tapi_Hold)))], []⟩
def AZ_slices_Clip_api_Hold_api_Hold : Shape := ⟨[(0, (.clip tapi_Hold))], []⟩
def AE_slices_Clip_api_Hold_api_Hold : Ent := ⟨42, AS_slices_Clip_api_Hold_api_Hold, AZ_slices_Clip_api_Hold_api_Hold, slices_Clip_api_Hold_api_Hold⟩
def AF_slices_Clip_api_Hold_api_Hold : Fx := AF0 []
theorem slices_Clip_api_Hold_api_Hold_ox : AX AE_slices_Clip_api_Hold_api_Hold := Afs (F := AF_slices_Clip_api_Hold_api_Hold) (fn := Tryz.f42) (m := []) (ents_sound trivial) Tryz.func42 trivial
def AS_decide_Reserve : Shape := ⟨[(0, (.dat (.list tapi_Hold))), (1, (.dat tapi_Hold))], []⟩
def AZ_decide_Reserve : Shape := ⟨[(0, (.dat (.list tapi_Hold))), (1, (.dat (.int .i64)))], []⟩
def AE_decide_Reserve : Ent := ⟨13, AS_decide_Reserve, AZ_decide_Reserve, decide_Reserve⟩
def AF_decide_Reserve : Fx := AF0 [AE_decide_right, AE_decide_find, AE_slices_Clip_api_Hold_api_Hold]
theorem decide_Reserve_ok : EntOK Tryz.prog AE_decide_Reserve := Afk (F := AF_decide_Reserve) (fn := Tryz.f13) (m := []) (ents_sound ⟨(decide_right_ox), (decide_find_ox), (slices_Clip_api_Hold_api_Hold_ox), trivial⟩) Tryz.func13 trivial
theorem decide_Reserve_ox : AX AE_decide_Reserve := decide_Reserve_ok.x (by kernel_rfl)
def AS_slices_Grow_api_Hold_api_Hold : Shape := ⟨[(0, (.nils 34 tapi_Hold)), (1, (.dat (.int .i64)))], []⟩
def AZ_slices_Grow_api_Hold_api_Hold : Shape := ⟨[(0, (.own tapi_Hold 0))], [.arr 34 tapi_Hold false]⟩
def AE_slices_Grow_api_Hold_api_Hold : Ent := ⟨79, AS_slices_Grow_api_Hold_api_Hold, AZ_slices_Grow_api_Hold_api_Hold, slices_Grow_api_Hold_api_Hold⟩
def AF_slices_Grow_api_Hold_api_Hold : Fx := AF0 []
theorem slices_Grow_api_Hold_api_Hold_ox : AX AE_slices_Grow_api_Hold_api_Hold := Afs (F := AF_slices_Grow_api_Hold_api_Hold) (fn := Tryz.f79) (m := []) (ents_sound trivial) Tryz.func79 trivial
def AL_slices_Concat_api_Hold_api_Hold_0 : Lp := ⟨⟨[(0, (.dat (.list (.list tapi_Hold)))), (3, (.dat (.int .i64))), (9, (.dat (.list (.list tapi_Hold)))), (10, (.dat (.int .i64))), (11, (.dat (.int .i64)))], []⟩, (.exit 0), ⟨[(0, (.dat (.list (.list tapi_Hold)))), (3, (.dat (.int .i64)))], []⟩, (.exit 80000000), ⟨[], []⟩⟩
def AL_slices_Concat_api_Hold_api_Hold_1 : Lp := ⟨⟨[(6, (.own tapi_Hold 0)), (25, (.dat (.list (.list tapi_Hold)))), (26, (.dat (.int .i64))), (27, (.dat (.int .i64)))], [.arr 34 tapi_Hold false]⟩, (.exit 2), ⟨[(6, (.own tapi_Hold 0))], [.arr 34 tapi_Hold false]⟩, (.exit 80000002), ⟨[], []⟩⟩
def AS_slices_Concat_api_Hold_api_Hold : Shape := ⟨[(0, (.dat (.list (.list tapi_Hold))))], []⟩
def AZ_slices_Concat_api_Hold_api_Hold : Shape := ⟨[(0, (.own tapi_Hold 0))], [.arr 34 tapi_Hold false]⟩
def AE_slices_Concat_api_Hold_api_Hold : Ent := ⟨43, AS_slices_Concat_api_Hold_api_Hold, AZ_slices_Concat_api_Hold_api_Hold, slices_Concat_api_Hold_api_Hold⟩
def AF_slices_Concat_api_Hold_api_Hold : Fx := mkFx Acx (lookupG [AE_slices_Grow_api_Hold_api_Hold]) (fun k st => bif Nat.beq k 0 then AL_slices_Concat_api_Hold_api_Hold_0.go (slices_Concat_api_Hold_api_Hold_l0) 0 st else bif Nat.beq k 2 then AL_slices_Concat_api_Hold_api_Hold_1.go (slices_Concat_api_Hold_api_Hold_l1) 0 st else .fail) 0
theorem slices_Concat_api_Hold_api_Hold_hG : GSound Tryz.prog (AF_slices_Concat_api_Hold_api_Hold).Γ := ents_sound ⟨(slices_Grow_api_Hold_api_Hold_ox), trivial⟩
theorem slices_Concat_api_Hold_api_Hold_la0 : LamOK Tryz.prog (AF_slices_Concat_api_Hold_api_Hold) Tryz.f43.ntmps 0 (loopAt (bodyOf Tryz.f43) 0) := Als (L := AL_slices_Concat_api_Hold_api_Hold_0) (b := slices_Concat_api_Hold_api_Hold_b0) (m := []) slices_Concat_api_Hold_api_Hold_hG trivial
theorem slices_Concat_api_Hold_api_Hold_la1 : LamOK Tryz.prog (AF_slices_Concat_api_Hold_api_Hold) Tryz.f43.ntmps 2 (loopAt (bodyOf Tryz.f43) 1) := Als (L := AL_slices_Concat_api_Hold_api_Hold_1) (b := slices_Concat_api_Hold_api_Hold_b1) (m := []) slices_Concat_api_Hold_api_Hold_hG trivial
theorem slices_Concat_api_Hold_api_Hold_ox : AX AE_slices_Concat_api_Hold_api_Hold := Afs (F := AF_slices_Concat_api_Hold_api_Hold) (fn := Tryz.f43) (m := [(0, loopAt (bodyOf Tryz.f43) 0), (2, loopAt (bodyOf Tryz.f43) 1)]) slices_Concat_api_Hold_api_Hold_hG Tryz.func43 ⟨slices_Concat_api_Hold_api_Hold_la0, slices_Concat_api_Hold_api_Hold_la1, trivial⟩
def AS_decide_Release : Shape := ⟨[(0, (.dat (.list tapi_Hold))), (1, (.dat (.int .i64)))], []⟩
def AZ_decide_Release : Shape := ⟨[(0, (.dat (.list tapi_Hold))), (1, (.dat (.int .i64)))], []⟩
def AE_decide_Release : Ent := ⟨15, AS_decide_Release, AZ_decide_Release, decide_Release⟩
def AF_decide_Release : Fx := AF0 [AE_decide_find, AE_slices_Concat_api_Hold_api_Hold]
theorem decide_Release_ok : EntOK Tryz.prog AE_decide_Release := Afk (F := AF_decide_Release) (fn := Tryz.f15) (m := []) (ents_sound ⟨(decide_find_ox), (slices_Concat_api_Hold_api_Hold_ox), trivial⟩) Tryz.func15 trivial
theorem decide_Release_ox : AX AE_decide_Release := decide_Release_ok.x (by kernel_rfl)
def AL_tree_Height_0 : Lp := ⟨⟨[(1, (.ptr 0 tapi_Tree 0 [])), (3, (.ptr 1 tapi_Node 0 [])), (5, (.dat (.int .i64)))], [.box 43 tapi_Tree (.dat tapi_Tree), .box 100 tapi_Node (.dat tapi_Node)]⟩, (.exit 0), ⟨[(5, (.dat (.int .i64)))], []⟩, (.exit 80000000), ⟨[], []⟩⟩
def AS_tree_Height : Shape := ⟨[(0, (.dat tapi_Tree))], []⟩
def AZ_tree_Height : Shape := ⟨[(0, (.dat (.int .i64)))], []⟩
def AE_tree_Height : Ent := ⟨20, AS_tree_Height, AZ_tree_Height, tree_Height⟩
def AF_tree_Height : Fx := mkFx Acx (lookupG [AE_pool_Get, AE_tree_leaf]) (fun k st => bif Nat.beq k 0 then AL_tree_Height_0.go (tree_Height_l0) 0 st else .fail) 0
theorem tree_Height_hG : GSound Tryz.prog (AF_tree_Height).Γ := ents_sound ⟨(pool_Get_ox), (tree_leaf_ox), trivial⟩
theorem tree_Height_la0 : LamOK Tryz.prog (AF_tree_Height) Tryz.f20.ntmps 0 (loopAt (bodyOf Tryz.f20) 0) := Als (L := AL_tree_Height_0) (b := tree_Height_b0) (m := []) tree_Height_hG trivial
theorem tree_Height_ox : AX AE_tree_Height := Afs (F := AF_tree_Height) (fn := Tryz.f20) (m := [(0, loopAt (bodyOf Tryz.f20) 0)]) tree_Height_hG Tryz.func20 ⟨tree_Height_la0, trivial⟩
def AS_path_Under : Shape := ⟨[(0, (.dat .str)), (1, (.dat .str))], []⟩
def AZ_path_Under : Shape := ⟨[(0, (.dat .bool))], []⟩
def AE_path_Under : Ent := ⟨124, AS_path_Under, AZ_path_Under, path_Under⟩
def AF_path_Under : Fx := AF0 [AE_strings_HasPrefix]
theorem path_Under_ox : AX AE_path_Under := Afs (F := AF_path_Under) (fn := Tryz.f124) (m := []) (ents_sound ⟨(strings_HasPrefix_ox), trivial⟩) Tryz.func124 trivial
def AL_decide_holds_room_0 : Lp := ⟨⟨[(3, (.ptr 0 tapi_Quota 0 [])), (4, (.ptr 1 tapi_Use 0 [])), (5, (.ptr 2 tapi_Use 0 [])), (10, (.dat (.list tapi_Hold))), (11, (.dat (.int .i64))), (12, (.dat (.int .i64)))], [.box 66 tapi_Quota (.dat tapi_Quota), .box 32 tapi_Use (.agg [(.dat (.int .i64)), (.dat (.int .i64))]), .box 32 tapi_Use (.dat tapi_Use)]⟩, (.exit 0), ⟨[(4, (.ptr 0 tapi_Use 0 [])), (5, (.ptr 1 tapi_Use 0 []))], [.box 32 tapi_Use (.agg [(.dat (.int .i64)), (.dat (.int .i64))]), .box 32 tapi_Use (.dat tapi_Use)]⟩, (.exit 80000000), ⟨[], []⟩⟩
def AS_decide_holds_room : Shape := ⟨[(0, (.dat (.list tapi_Hold))), (1, (.dat tapi_Quota))], []⟩
def AZ_decide_holds_room : Shape := ⟨[(0, (.dat tapi_Use))], []⟩
def AE_decide_holds_room : Ent := ⟨80, AS_decide_holds_room, AZ_decide_holds_room, decide_holds_room⟩
def AF_decide_holds_room : Fx := mkFx Acx (lookupG [AE_path_Under]) (fun k st => bif Nat.beq k 0 then AL_decide_holds_room_0.go (decide_holds_room_l0) 0 st else .fail) 0
theorem decide_holds_room_hG : GSound Tryz.prog (AF_decide_holds_room).Γ := ents_sound ⟨(path_Under_ox), trivial⟩
theorem decide_holds_room_la0 : LamOK Tryz.prog (AF_decide_holds_room) Tryz.f80.ntmps 0 (loopAt (bodyOf Tryz.f80) 0) := Als (L := AL_decide_holds_room_0) (b := decide_holds_room_b0) (m := []) decide_holds_room_hG trivial
theorem decide_holds_room_ox : AX AE_decide_holds_room := Afs (F := AF_decide_holds_room) (fn := Tryz.f80) (m := [(0, loopAt (bodyOf Tryz.f80) 0)]) decide_holds_room_hG Tryz.func80 ⟨decide_holds_room_la0, trivial⟩
def AS_bound_list_hasC1 : Shape := ⟨[(0, (.dat tapi_Span)), (1, (.ptr 0 .str 0 []))], [.box 9 .str (.dat .str)]⟩
def AZ_bound_list_hasC1 : Shape := ⟨[(0, (.dat .bool))], [.box 9 .str (.dat .str)]⟩
def AE_bound_list_hasC1 : Ent := ⟨214, AS_bound_list_hasC1, AZ_bound_list_hasC1, bound_list_hasC1⟩
def AF_bound_list_hasC1 : Fx := mkFx Acx (lookupG [AE_span_Has]) (fun k st => .fail) 1
theorem bound_list_hasC1_ox : AX AE_bound_list_hasC1 := Afs (F := AF_bound_list_hasC1) (fn := Tryz.f214) (m := []) (ents_sound ⟨(span_Has_ox), trivial⟩) Tryz.func214 trivial
def AL_slices_IndexFunc_bound_list_api_Span_0 : Lp := ⟨⟨[(0, (.dat (.list tapi_Span))), (1, (.fn 214 [] [(.ptr 0 .str 0 [])])), (7, (.dat (.int .i64))), (8, (.dat (.int .i64)))], [.box 9 .str (.dat .str)]⟩, .ret, ⟨[(4, (.dat (.int .i64)))], [.box 9 .str (.dat .str)]⟩, (.exit 0), ⟨[], [.box 9 .str (.dat .str)]⟩⟩
def AS_slices_IndexFunc_bound_list_api_Span : Shape := ⟨[(0, (.dat (.list tapi_Span))), (1, (.fn 214 [] [(.ptr 0 .str 0 [])]))], [.box 9 .str (.dat .str)]⟩
def AZ_slices_IndexFunc_bound_list_api_Span : Shape := ⟨[(0, (.dat (.int .i64)))], [.box 9 .str (.dat .str)]⟩
def AE_slices_IndexFunc_bound_list_api_Span : Ent := ⟨253, AS_slices_IndexFunc_bound_list_api_Span, AZ_slices_IndexFunc_bound_list_api_Span, slices_IndexFunc_bound_list_api_Span⟩
def AF_slices_IndexFunc_bound_list_api_Span : Fx := mkFx Acx (lookupG [AE_bound_list_hasC1]) (fun k st => bif Nat.beq k 0 then AL_slices_IndexFunc_bound_list_api_Span_0.go (slices_IndexFunc_bound_list_api_Span_l0) 1 st else .fail) 1
theorem slices_IndexFunc_bound_list_api_Span_hG : GSound Tryz.prog (AF_slices_IndexFunc_bound_list_api_Span).Γ := ents_sound ⟨(bound_list_hasC1_ox), trivial⟩
theorem slices_IndexFunc_bound_list_api_Span_la0 : LamOK Tryz.prog (AF_slices_IndexFunc_bound_list_api_Span) Tryz.f253.ntmps 0 (loopAt (bodyOf Tryz.f253) 0) := Als (L := AL_slices_IndexFunc_bound_list_api_Span_0) (b := slices_IndexFunc_bound_list_api_Span_b0) (m := []) slices_IndexFunc_bound_list_api_Span_hG trivial
theorem slices_IndexFunc_bound_list_api_Span_ox : AX AE_slices_IndexFunc_bound_list_api_Span := Afs (F := AF_slices_IndexFunc_bound_list_api_Span) (fn := Tryz.f253) (m := [(0, loopAt (bodyOf Tryz.f253) 0)]) slices_IndexFunc_bound_list_api_Span_hG Tryz.func253 ⟨slices_IndexFunc_bound_list_api_Span_la0, trivial⟩
def AS_slices_ContainsFunc_bound_list_api_Span : Shape := ⟨[(0, (.dat (.list tapi_Span))), (1, (.fn 214 [] [(.ptr 0 .str 0 [])]))], [.box 9 .str (.dat .str)]⟩
def AZ_slices_ContainsFunc_bound_list_api_Span : Shape := ⟨[(0, (.dat .bool))], [.box 9 .str (.dat .str)]⟩
def AE_slices_ContainsFunc_bound_list_api_Span : Ent := ⟨213, AS_slices_ContainsFunc_bound_list_api_Span, AZ_slices_ContainsFunc_bound_list_api_Span, slices_ContainsFunc_bound_list_api_Span⟩
def AF_slices_ContainsFunc_bound_list_api_Span : Fx := mkFx Acx (lookupG [AE_slices_IndexFunc_bound_list_api_Span]) (fun k st => .fail) 1
theorem slices_ContainsFunc_bound_list_api_Span_ox : AX AE_slices_ContainsFunc_bound_list_api_Span := Afs (F := AF_slices_ContainsFunc_bound_list_api_Span) (fn := Tryz.f213) (m := []) (ents_sound ⟨(slices_IndexFunc_bound_list_api_Span_ox), trivial⟩) Tryz.func213 trivial
def AS_bound_list_has : Shape := ⟨[(0, (.dat (.list tapi_Span))), (1, (.dat .str))], []⟩
def AZ_bound_list_has : Shape := ⟨[(0, (.dat .bool))], []⟩
def AE_bound_list_has : Ent := ⟨165, AS_bound_list_has, AZ_bound_list_has, bound_list_has⟩
def AF_bound_list_has : Fx := AF0 [AE_slices_ContainsFunc_bound_list_api_Span]
theorem bound_list_has_ox : AX AE_bound_list_has := Afs (F := AF_bound_list_has) (fn := Tryz.f165) (m := []) (ents_sound ⟨(slices_ContainsFunc_bound_list_api_Span_ox), trivial⟩) Tryz.func165 trivial
def AS_strings_IndexByte : Shape := ⟨[(0, (.dat .str)), (1, (.dat (.int .u8)))], []⟩
def AZ_strings_IndexByte : Shape := ⟨[(0, (.dat (.int .i64)))], []⟩
def AE_strings_IndexByte : Ent := ⟨306, AS_strings_IndexByte, AZ_strings_IndexByte, strings_IndexByte⟩
def AF_strings_IndexByte : Fx := AF0 [AE_internal_stringslite_IndexByte]
theorem strings_IndexByte_ox : AX AE_strings_IndexByte := Afs (F := AF_strings_IndexByte) (fn := Tryz.f306) (m := []) (ents_sound ⟨(internal_stringslite_IndexByte_ox), trivial⟩) Tryz.func306 trivial
def AS_unicode_utf8_ValidRune : Shape := ⟨[(0, (.dat (.int .i32)))], []⟩
def AZ_unicode_utf8_ValidRune : Shape := ⟨[(0, (.dat .bool))], []⟩
def AE_unicode_utf8_ValidRune : Ent := ⟨307, AS_unicode_utf8_ValidRune, AZ_unicode_utf8_ValidRune, unicode_utf8_ValidRune⟩
def AF_unicode_utf8_ValidRune : Fx := AF0 []
theorem unicode_utf8_ValidRune_ox : AX AE_unicode_utf8_ValidRune := Afs (F := AF_unicode_utf8_ValidRune) (fn := Tryz.f307) (m := []) (ents_sound trivial) Tryz.func307 trivial

end D
/- Entries, by program. -/
set_option linter.unusedVariables false
set_option maxRecDepth 100000
open Go Go.X Go.Proofs D
namespace D
def AL_strings_IndexRune_0 : Lp := ⟨⟨[(175, (.ptr 0 .unit 0 []))], [.iter]⟩, .ret, ⟨[(4, (.dat (.int .i64)))], []⟩, (.exit 9), ⟨[], []⟩⟩
def AS_strings_IndexRune : Shape := ⟨[(0, (.dat .str)), (1, (.dat (.int .i32)))], []⟩
def AZ_strings_IndexRune : Shape := ⟨[(0, (.dat (.int .i64)))], []⟩
def AE_strings_IndexRune : Ent := ⟨291, AS_strings_IndexRune, AZ_strings_IndexRune, strings_IndexRune⟩
def AF_strings_IndexRune : Fx := mkFx Acx (lookupG [AE_strings_IndexByte, AE_unicode_utf8_ValidRune]) (fun k st => bif Nat.beq k 9 then AL_strings_IndexRune_0.go (strings_IndexRune_l0) 0 st else .fail) 0
theorem strings_IndexRune_hG : GSound Tryz.prog (AF_strings_IndexRune).Γ := ents_sound ⟨(strings_IndexByte_ox), (unicode_utf8_ValidRune_ox), trivial⟩
theorem strings_IndexRune_la1 : LamOK Tryz.prog (AF_strings_IndexRune) Tryz.f291.ntmps 1 (loopAt (bodyOf Tryz.f291) 1) := lam_none (fun _ => rfl)
theorem strings_IndexRune_la2 : LamOK Tryz.prog (AF_strings_IndexRune) Tryz.f291.ntmps 3 (loopAt (bodyOf Tryz.f291) 2) := lam_none (fun _ => rfl)
theorem strings_IndexRune_la3 : LamOK Tryz.prog (AF_strings_IndexRune) Tryz.f291.ntmps 5 (loopAt (bodyOf Tryz.f291) 3) := lam_none (fun _ => rfl)
theorem strings_IndexRune_la4 : LamOK Tryz.prog (AF_strings_IndexRune) Tryz.f291.ntmps 7 (loopAt (bodyOf Tryz.f291) 4) := lam_none (fun _ => rfl)
theorem strings_IndexRune_la0 : LamOK Tryz.prog (AF_strings_IndexRune) Tryz.f291.ntmps 9 (loopAt (bodyOf Tryz.f291) 0) := Als (L := AL_strings_IndexRune_0) (b := strings_IndexRune_b0) (m := []) strings_IndexRune_hG trivial
theorem strings_IndexRune_ox : AX AE_strings_IndexRune := Afs (F := AF_strings_IndexRune) (fn := Tryz.f291) (m := [(9, loopAt (bodyOf Tryz.f291) 0), (1, loopAt (bodyOf Tryz.f291) 1), (3, loopAt (bodyOf Tryz.f291) 2), (5, loopAt (bodyOf Tryz.f291) 3), (7, loopAt (bodyOf Tryz.f291) 4)]) strings_IndexRune_hG Tryz.func291 ⟨strings_IndexRune_la0, strings_IndexRune_la1, strings_IndexRune_la2, strings_IndexRune_la3, strings_IndexRune_la4, trivial⟩
def AS_strings_shouldUseASCIISet : Shape := ⟨[(0, (.dat (.int .i64)))], []⟩
def AZ_strings_shouldUseASCIISet : Shape := ⟨[(0, (.dat .bool))], []⟩
def AE_strings_shouldUseASCIISet : Ent := ⟨292, AS_strings_shouldUseASCIISet, AZ_strings_shouldUseASCIISet, strings_shouldUseASCIISet⟩
def AF_strings_shouldUseASCIISet : Fx := AF0 []
theorem strings_shouldUseASCIISet_ox : AX AE_strings_shouldUseASCIISet := Afs (F := AF_strings_shouldUseASCIISet) (fn := Tryz.f292) (m := []) (ents_sound trivial) Tryz.func292 trivial
def AL_strings_IndexAny_s_1 : Lp := ⟨⟨[(1, (.dat .str)), (45, (.ptr 0 .unit 0 []))], [.iter]⟩, .ret, ⟨[(4, (.dat (.int .i64)))], []⟩, (.exit 2), ⟨[], []⟩⟩
def AS_strings_IndexAny_s : Shape := ⟨[(0, (.dat .str)), (1, (.dat .str))], []⟩
def AZ_strings_IndexAny_s : Shape := ⟨[(0, (.dat (.int .i64)))], []⟩
def AE_strings_IndexAny_s : Ent := ⟨276, AS_strings_IndexAny_s, AZ_strings_IndexAny_s, strings_IndexAny_s⟩
def AF_strings_IndexAny_s : Fx := mkFx Acx (lookupG [AE_strings_IndexRune, AE_strings_shouldUseASCIISet]) (fun k st => bif Nat.beq k 2 then AL_strings_IndexAny_s_1.go (strings_IndexAny_s_l1) 0 st else .fail) 0
theorem strings_IndexAny_s_hG : GSound Tryz.prog (AF_strings_IndexAny_s).Γ := ents_sound ⟨(strings_IndexRune_ox), (strings_shouldUseASCIISet_ox), trivial⟩
theorem strings_IndexAny_s_la0 : LamOK Tryz.prog (AF_strings_IndexAny_s) Tryz.f276.ntmps 0 (loopAt (bodyOf Tryz.f276) 0) := lam_none (fun _ => rfl)
theorem strings_IndexAny_s_la1 : LamOK Tryz.prog (AF_strings_IndexAny_s) Tryz.f276.ntmps 2 (loopAt (bodyOf Tryz.f276) 1) := Als (L := AL_strings_IndexAny_s_1) (b := strings_IndexAny_s_b1) (m := []) strings_IndexAny_s_hG trivial
theorem strings_IndexAny_s_ok : EntOK Tryz.prog AE_strings_IndexAny_s := Afk (F := AF_strings_IndexAny_s) (fn := Tryz.f276) (m := [(0, loopAt (bodyOf Tryz.f276) 0), (2, loopAt (bodyOf Tryz.f276) 1)]) strings_IndexAny_s_hG Tryz.func276 ⟨strings_IndexAny_s_la0, strings_IndexAny_s_la1, trivial⟩
def AS_strings_IndexAny : Shape := ⟨[(0, (.dat .str)), (1, (.dat .str))], []⟩
def AZ_strings_IndexAny : Shape := ⟨[(0, (.dat (.int .i64)))], []⟩
def AE_strings_IndexAny : Ent := ⟨276, AS_strings_IndexAny, AZ_strings_IndexAny, strings_IndexAny⟩
theorem strings_IndexAny_ok : EntOK Tryz.prog AE_strings_IndexAny := ent_or (f := 276) (S := AS_strings_IndexAny) (Z := AZ_strings_IndexAny) (g1 := strings_IndexAny_s) (g2 := anyLong) strings_IndexAny_s_ok (indexAny_ent Tryz.lays153 (by kernel_rfl) Tryz.func276 (by kernel_rfl))
theorem strings_IndexAny_ox : AX AE_strings_IndexAny := strings_IndexAny_ok.x (by kernel_rfl)
def AS_path_rest_upTo : Shape := ⟨[(0, (.ptr 0 tpath_place 0 [0]))], [.box 294 tpath_place (.agg [(.agg [(.dat .str)]), (.agg [(.dat .str), (.dat (.int .i64)), (.dat (.int .i64)), (.dat .str)])])]⟩
def AZ_path_rest_upTo : Shape := ⟨[(0, (.dat .str)), (1, (.dat (.int .u8)))], [.box 294 tpath_place (.agg [(.agg [(.dat .str)]), (.agg [(.dat .str), (.dat (.int .i64)), (.dat (.int .i64)), (.dat .str)])])]⟩
def AE_path_rest_upTo : Ent := ⟨261, AS_path_rest_upTo, AZ_path_rest_upTo, path_rest_upTo⟩
def AF_path_rest_upTo : Fx := mkFx Acx (lookupG [AE_strings_IndexAny]) (fun k st => .fail) 1
theorem path_rest_upTo_ox : AX AE_path_rest_upTo := Afs (F := AF_path_rest_upTo) (fn := Tryz.f261) (m := []) (ents_sound ⟨(strings_IndexAny_ox), trivial⟩) Tryz.func261 trivial
def AS_path_place_read : Shape := ⟨[(0, (.ptr 0 tpath_place 0 []))], [.box 294 tpath_place (.agg [(.agg [(.dat .str)]), (.agg [(.dat .str), (.dat (.int .i64)), (.dat (.int .i64)), (.dat .str)])])]⟩
def AZ_path_place_read : Shape := ⟨[], [.box 294 tpath_place (.agg [(.agg [(.dat .str)]), (.agg [(.dat .str), (.dat (.int .i64)), (.dat (.int .i64)), (.dat .str)])])]⟩
def AE_path_place_read : Ent := ⟨226, AS_path_place_read, AZ_path_place_read, path_place_read⟩
def AF_path_place_read : Fx := mkFx Acx (lookupG [AE_strings_CutPrefix, AE_path_rest_upTo]) (fun k st => .fail) 1
theorem path_place_read_ox : AX AE_path_place_read := Afs (F := AF_path_place_read) (fn := Tryz.f226) (m := []) (ents_sound ⟨(strings_CutPrefix_ox), (path_rest_upTo_ox), trivial⟩) Tryz.func226 trivial
def AL_strings_trimRightByte_0 : Lp := ⟨⟨[(0, (.dat .str)), (1, (.dat (.int .u8)))], []⟩, (.exit 0), ⟨[(0, (.dat .str))], []⟩, (.exit 80000000), ⟨[], []⟩⟩
def AS_strings_trimRightByte : Shape := ⟨[(0, (.dat .str)), (1, (.dat (.int .u8)))], []⟩
def AZ_strings_trimRightByte : Shape := ⟨[(0, (.dat .str))], []⟩
def AE_strings_trimRightByte : Ent := ⟨296, AS_strings_trimRightByte, AZ_strings_trimRightByte, strings_trimRightByte⟩
def AF_strings_trimRightByte : Fx := mkFx Acx (lookupG []) (fun k st => bif Nat.beq k 0 then AL_strings_trimRightByte_0.go (strings_trimRightByte_l0) 0 st else .fail) 0
theorem strings_trimRightByte_hG : GSound Tryz.prog (AF_strings_trimRightByte).Γ := ents_sound trivial
theorem strings_trimRightByte_la0 : LamOK Tryz.prog (AF_strings_trimRightByte) Tryz.f296.ntmps 0 (loopAt (bodyOf Tryz.f296) 0) := Als (L := AL_strings_trimRightByte_0) (b := strings_trimRightByte_b0) (m := []) strings_trimRightByte_hG trivial
theorem strings_trimRightByte_ox : AX AE_strings_trimRightByte := Afs (F := AF_strings_trimRightByte) (fn := Tryz.f296) (m := [(0, loopAt (bodyOf Tryz.f296) 0)]) strings_trimRightByte_hG Tryz.func296 ⟨strings_trimRightByte_la0, trivial⟩
def AL_strings_trimLeftByte_0 : Lp := ⟨⟨[(0, (.dat .str)), (1, (.dat (.int .u8)))], []⟩, (.exit 0), ⟨[(0, (.dat .str))], []⟩, (.exit 80000000), ⟨[], []⟩⟩
def AS_strings_trimLeftByte : Shape := ⟨[(0, (.dat .str)), (1, (.dat (.int .u8)))], []⟩
def AZ_strings_trimLeftByte : Shape := ⟨[(0, (.dat .str))], []⟩
def AE_strings_trimLeftByte : Ent := ⟨295, AS_strings_trimLeftByte, AZ_strings_trimLeftByte, strings_trimLeftByte⟩
def AF_strings_trimLeftByte : Fx := mkFx Acx (lookupG []) (fun k st => bif Nat.beq k 0 then AL_strings_trimLeftByte_0.go (strings_trimLeftByte_l0) 0 st else .fail) 0
theorem strings_trimLeftByte_hG : GSound Tryz.prog (AF_strings_trimLeftByte).Γ := ents_sound trivial
theorem strings_trimLeftByte_la0 : LamOK Tryz.prog (AF_strings_trimLeftByte) Tryz.f295.ntmps 0 (loopAt (bodyOf Tryz.f295) 0) := Als (L := AL_strings_trimLeftByte_0) (b := strings_trimLeftByte_b0) (m := []) strings_trimLeftByte_hG trivial
theorem strings_trimLeftByte_ox : AX AE_strings_trimLeftByte := Afs (F := AF_strings_trimLeftByte) (fn := Tryz.f295) (m := [(0, loopAt (bodyOf Tryz.f295) 0)]) strings_trimLeftByte_hG Tryz.func295 ⟨strings_trimLeftByte_la0, trivial⟩
def AS_strings_Trim_s : Shape := ⟨[(0, (.dat .str)), (1, (.dat .str))], []⟩
def AZ_strings_Trim_s : Shape := ⟨[(0, (.dat .str))], []⟩
def AE_strings_Trim_s : Ent := ⟨277, AS_strings_Trim_s, AZ_strings_Trim_s, strings_Trim_s⟩
def AF_strings_Trim_s : Fx := AF0 [AE_strings_trimRightByte, AE_strings_trimLeftByte]
theorem strings_Trim_s_ok : EntOK Tryz.prog AE_strings_Trim_s := Afk (F := AF_strings_Trim_s) (fn := Tryz.f277) (m := []) (ents_sound ⟨(strings_trimRightByte_ox), (strings_trimLeftByte_ox), trivial⟩) Tryz.func277 trivial
def AS_strings_Trim : Shape := ⟨[(0, (.dat .str)), (1, (.dat .str))], []⟩
def AZ_strings_Trim : Shape := ⟨[(0, (.dat .str))], []⟩
def AE_strings_Trim : Ent := ⟨277, AS_strings_Trim, AZ_strings_Trim, strings_Trim⟩
theorem strings_Trim_ok : EntOK Tryz.prog AE_strings_Trim := ent_or (f := 277) (S := AS_strings_Trim) (Z := AZ_strings_Trim) (g1 := strings_Trim_s) (g2 := trimLong) strings_Trim_s_ok (trim_ent Tryz.lays160 (by kernel_rfl) Tryz.func277 (by kernel_rfl))
theorem strings_Trim_ox : AX AE_strings_Trim := strings_Trim_ok.x (by kernel_rfl)
def AS_path_isBody : Shape := ⟨[(0, (.dat .str))], []⟩
def AZ_path_isBody : Shape := ⟨[(0, (.dat .bool))], []⟩
def AE_path_isBody : Ent := ⟨262, AS_path_isBody, AZ_path_isBody, path_isBody⟩
def AF_path_isBody : Fx := AF0 [AE_strings_Trim]
theorem path_isBody_ox : AX AE_path_isBody := Afs (F := AF_path_isBody) (fn := Tryz.f262) (m := []) (ents_sound ⟨(strings_Trim_ox), trivial⟩) Tryz.func262 trivial
def AL_path_Key_c100010 : Lp := ⟨⟨[(1, (.ptr 0 tapi_Place 0 [])), (86, (.dat .bool))], [.box 253 tapi_Place (.dat tapi_Place)]⟩, .nrm, ⟨[], []⟩, .ret, ⟨[(2, (.dat .str)), (3, (.dat (.int .i64)))], []⟩⟩
def AL_path_Key_c100008 : Lp := ⟨⟨[(1, (.ptr 0 tapi_Place 0 [])), (4, (.ptr 1 tapi_Place 0 [])), (66, (.dat .bool))], [.box 253 tapi_Place (.dat tapi_Place), .box 253 tapi_Place (.agg [(.dat .str), (.dat (.int .i64)), (.dat (.int .i64)), (.dat .str)])]⟩, .nrm, ⟨[], []⟩, .ret, ⟨[(2, (.dat .str)), (3, (.dat (.int .i64)))], []⟩⟩
def AL_path_Key_c100006 : Lp := ⟨⟨[(1, (.ptr 0 tapi_Place 0 [])), (4, (.ptr 1 tapi_Place 0 [])), (35, (.dat .bool))], [.box 253 tapi_Place (.dat tapi_Place), .box 253 tapi_Place (.agg [(.dat .str), (.dat (.int .i64)), (.dat (.int .i64)), (.dat .str)])]⟩, .nrm, ⟨[], []⟩, .ret, ⟨[(2, (.dat .str)), (3, (.dat (.int .i64)))], []⟩⟩
def AL_path_Key_c100004 : Lp := ⟨⟨[(1, (.ptr 0 tapi_Place 0 [])), (4, (.ptr 1 tapi_Place 0 [])), (23, (.dat .bool))], [.box 253 tapi_Place (.dat tapi_Place), .box 253 tapi_Place (.agg [(.dat .str), (.dat (.int .i64)), (.dat (.int .i64)), (.dat .str)])]⟩, .nrm, ⟨[], []⟩, .ret, ⟨[(2, (.dat .str)), (3, (.dat (.int .i64)))], []⟩⟩
def AL_path_Key_c300003 : Lp := ⟨⟨[(1, (.ptr 0 tapi_Place 0 [])), (4, (.ptr 1 tapi_Place 0 [])), (22, (.dat .bool))], [.box 253 tapi_Place (.dat tapi_Place), .box 253 tapi_Place (.agg [(.dat .str), (.dat (.int .i64)), (.dat (.int .i64)), (.dat .str)])]⟩, .nrm, ⟨[], []⟩, .ret, ⟨[(2, (.dat .str)), (3, (.dat (.int .i64)))], []⟩⟩
def AS_path_Key : Shape := ⟨[(0, (.dat tapi_Place))], []⟩
def AZ_path_Key : Shape := ⟨[(0, (.dat .str)), (1, (.dat (.int .i64)))], []⟩
def AE_path_Key : Ent := ⟨227, AS_path_Key, AZ_path_Key, path_Key⟩
def AF_path_Key : Fx := AF0 [AE_path_isName, AE_path_Valid, AE_path_isBody]
def AC_path_Key : Cuts := [(100010, AL_path_Key_c100010.go (path_Key_c100010) 0), (100008, AL_path_Key_c100008.go (path_Key_c100008) 0), (100006, AL_path_Key_c100006.go (path_Key_c100006) 0), (100004, AL_path_Key_c100004.go (path_Key_c100004) 0), (300003, AL_path_Key_c300003.go (path_Key_c300003) 0)]
theorem path_Key_c100010_eq (s : AL_path_Key_c100010.S.ty.den) : @Eq (Option AL_path_Key_c100010.Out) ((evK (AF_path_Key) (AC_path_Key) (tailOf (bodyOf Tryz.f227) 100010) 0 (AL_path_Key_c100010.S.enc s)).bind fun (e, st) => AL_path_Key_c100010.out (AF_path_Key).m e st).val (path_Key_c100010 s) := by kernel_rfl
theorem path_Key_c100008_eq (s : AL_path_Key_c100008.S.ty.den) : @Eq (Option AL_path_Key_c100008.Out) ((evK (AF_path_Key) (AC_path_Key) (tailOf (bodyOf Tryz.f227) 100008) 0 (AL_path_Key_c100008.S.enc s)).bind fun (e, st) => AL_path_Key_c100008.out (AF_path_Key).m e st).val (path_Key_c100008 s) := by kernel_rfl
theorem path_Key_c100006_eq (s : AL_path_Key_c100006.S.ty.den) : @Eq (Option AL_path_Key_c100006.Out) ((evK (AF_path_Key) (AC_path_Key) (tailOf (bodyOf Tryz.f227) 100006) 0 (AL_path_Key_c100006.S.enc s)).bind fun (e, st) => AL_path_Key_c100006.out (AF_path_Key).m e st).val (path_Key_c100006 s) := by kernel_rfl
theorem path_Key_c100004_eq (s : AL_path_Key_c100004.S.ty.den) : @Eq (Option AL_path_Key_c100004.Out) ((evK (AF_path_Key) (AC_path_Key) (tailOf (bodyOf Tryz.f227) 100004) 0 (AL_path_Key_c100004.S.enc s)).bind fun (e, st) => AL_path_Key_c100004.out (AF_path_Key).m e st).val (path_Key_c100004 s) := by kernel_rfl
theorem path_Key_c300003_eq (s : AL_path_Key_c300003.S.ty.den) : @Eq (Option AL_path_Key_c300003.Out) ((evK (AF_path_Key) (AC_path_Key) (tailOf (bodyOf Tryz.f227) 300003) 0 (AL_path_Key_c300003.S.enc s)).bind fun (e, st) => AL_path_Key_c300003.out (AF_path_Key).m e st).val (path_Key_c300003 s) := by kernel_rfl
theorem path_Key_eq (s : (AE_path_Key).S.ty.den) : (evFnK (AF_path_Key) (AC_path_Key) Tryz.f227 (AE_path_Key).S (AE_path_Key).Z s).val = (AE_path_Key).g s := by kernel_rfl
theorem path_Key_hG : GSound Tryz.prog (AF_path_Key).Γ := ents_sound ⟨(path_isName_ox), (path_Valid_ox), (path_isBody_ox), trivial⟩
theorem path_Key_c100010_ok : CutOK Tryz.prog (AF_path_Key) Tryz.f227.ntmps (AL_path_Key_c100010.go (path_Key_c100010) 0) (tailOf (bodyOf Tryz.f227) 100010) :=
  cut_sound Atab (path_Key_hG) Amixed (L := AL_path_Key_c100010) (k := 0) (f := path_Key_c100010) (C := (AC_path_Key)) (l := []) (m := []) (by kernel_rfl) trivial (by kernel_rfl) trivial (by kernel_rfl) (rfOK_no _ (by kernel_rfl)) (path_Key_c100010_eq)
theorem path_Key_c100008_ok : CutOK Tryz.prog (AF_path_Key) Tryz.f227.ntmps (AL_path_Key_c100008.go (path_Key_c100008) 0) (tailOf (bodyOf Tryz.f227) 100008) :=
  cut_sound Atab (path_Key_hG) Amixed (L := AL_path_Key_c100008) (k := 0) (f := path_Key_c100008) (C := (AC_path_Key)) (l := []) (m := [(AL_path_Key_c100010.go (path_Key_c100010) 0, tailOf (bodyOf Tryz.f227) 100010)]) (by kernel_rfl) trivial (by kernel_rfl) ⟨path_Key_c100010_ok, trivial⟩ (by kernel_rfl) (rfOK_no _ (by kernel_rfl)) (path_Key_c100008_eq)
theorem path_Key_c100006_ok : CutOK Tryz.prog (AF_path_Key) Tryz.f227.ntmps (AL_path_Key_c100006.go (path_Key_c100006) 0) (tailOf (bodyOf Tryz.f227) 100006) :=
  cut_sound Atab (path_Key_hG) Amixed (L := AL_path_Key_c100006) (k := 0) (f := path_Key_c100006) (C := (AC_path_Key)) (l := []) (m := [(AL_path_Key_c100008.go (path_Key_c100008) 0, tailOf (bodyOf Tryz.f227) 100008)]) (by kernel_rfl) trivial (by kernel_rfl) ⟨path_Key_c100008_ok, trivial⟩ (by kernel_rfl) (rfOK_no _ (by kernel_rfl)) (path_Key_c100006_eq)
theorem path_Key_c100004_ok : CutOK Tryz.prog (AF_path_Key) Tryz.f227.ntmps (AL_path_Key_c100004.go (path_Key_c100004) 0) (tailOf (bodyOf Tryz.f227) 100004) :=
  cut_sound Atab (path_Key_hG) Amixed (L := AL_path_Key_c100004) (k := 0) (f := path_Key_c100004) (C := (AC_path_Key)) (l := []) (m := [(AL_path_Key_c100006.go (path_Key_c100006) 0, tailOf (bodyOf Tryz.f227) 100006)]) (by kernel_rfl) trivial (by kernel_rfl) ⟨path_Key_c100006_ok, trivial⟩ (by kernel_rfl) (rfOK_no _ (by kernel_rfl)) (path_Key_c100004_eq)
theorem path_Key_c300003_ok : CutOK Tryz.prog (AF_path_Key) Tryz.f227.ntmps (AL_path_Key_c300003.go (path_Key_c300003) 0) (tailOf (bodyOf Tryz.f227) 300003) :=
  cut_sound Atab (path_Key_hG) Amixed (L := AL_path_Key_c300003) (k := 0) (f := path_Key_c300003) (C := (AC_path_Key)) (l := []) (m := [(AL_path_Key_c100004.go (path_Key_c100004) 0, tailOf (bodyOf Tryz.f227) 100004)]) (by kernel_rfl) trivial (by kernel_rfl) ⟨path_Key_c100004_ok, trivial⟩ (by kernel_rfl) (rfOK_no _ (by kernel_rfl)) (path_Key_c300003_eq)
theorem path_Key_ok : EntOK Tryz.prog (AE_path_Key) :=
  fun_soundK (C := (AC_path_Key)) (F := (AF_path_Key)) Atab (path_Key_hG) Amixed (fn := Tryz.f227) (l := []) (m := [(AL_path_Key_c300003.go (path_Key_c300003) 0, tailOf (bodyOf Tryz.f227) 300003)]) Tryz.func227 (by kernel_rfl) (by kernel_rfl) (by kernel_rfl) trivial (by kernel_rfl) ⟨path_Key_c300003_ok, trivial⟩ (rfOK_no _ (by kernel_rfl)) (by kernel_rfl) (path_Key_eq)
theorem path_Key_ox : AX (AE_path_Key) := (path_Key_ok).x (by kernel_rfl)
def AS_path_Place : Shape := ⟨[(0, (.dat .str))], []⟩
def AZ_path_Place : Shape := ⟨[(0, (.dat tapi_Place)), (1, (.dat (.int .i64)))], []⟩
def AE_path_Place : Ent := ⟨175, AS_path_Place, AZ_path_Place, path_Place⟩
def AF_path_Place : Fx := AF0 [AE_path_place_read, AE_path_Key]
theorem path_Place_ox : AX AE_path_Place := Afs (F := AF_path_Place) (fn := Tryz.f175) (m := []) (ents_sound ⟨(path_place_read_ox), (path_Key_ox), trivial⟩) Tryz.func175 trivial
def AS_entry_Charge : Shape := ⟨[(0, (.dat tapi_Pair))], []⟩
def AZ_entry_Charge : Shape := ⟨[(0, (.dat tapi_Use))], []⟩
def AE_entry_Charge : Ent := ⟨126, AS_entry_Charge, AZ_entry_Charge, entry_Charge⟩
def AF_entry_Charge : Fx := AF0 [AE_path_Place]
theorem entry_Charge_ox : AX AE_entry_Charge := Afs (F := AF_entry_Charge) (fn := Tryz.f126) (m := []) (ents_sound ⟨(path_Place_ox), trivial⟩) Tryz.func126 trivial
def AS_bound_grow : Shape := ⟨[(0, (.ptr 0 tbound_bounds 0 [0, 0])), (1, (.dat (.int .i64))), (2, (.dat (.int .i64)))], [.box 240 tbound_bounds (.agg [(.agg [(.agg [(.dat (.int .i64)), (.dat (.int .i64))]), (.agg [(.dat (.int .i64)), (.dat (.int .i64))])])])]⟩
def AZ_bound_grow : Shape := ⟨[], [.box 240 tbound_bounds (.agg [(.agg [(.agg [(.dat (.int .i64)), (.dat (.int .i64))]), (.agg [(.dat (.int .i64)), (.dat (.int .i64))])])])]⟩
def AE_bound_grow : Ent := ⟨215, AS_bound_grow, AZ_bound_grow, bound_grow⟩
def AF_bound_grow : Fx := mkFx Acx (lookupG []) (fun k st => .fail) 1
theorem bound_grow_ox : AX AE_bound_grow := Afs (F := AF_bound_grow) (fn := Tryz.f215) (m := []) (ents_sound trivial) Tryz.func215 trivial
def AS_bound_grow_v2 : Shape := ⟨[(0, (.ptr 0 tbound_bounds 0 [0, 1])), (1, (.dat (.int .i64))), (2, (.dat (.int .i64)))], [.box 240 tbound_bounds (.agg [(.agg [(.agg [(.dat (.int .i64)), (.dat (.int .i64))]), (.agg [(.dat (.int .i64)), (.dat (.int .i64))])])])]⟩
def AZ_bound_grow_v2 : Shape := ⟨[], [.box 240 tbound_bounds (.agg [(.agg [(.agg [(.dat (.int .i64)), (.dat (.int .i64))]), (.agg [(.dat (.int .i64)), (.dat (.int .i64))])])])]⟩
def AE_bound_grow_v2 : Ent := ⟨215, AS_bound_grow_v2, AZ_bound_grow_v2, bound_grow_v2⟩
def AF_bound_grow_v2 : Fx := mkFx Acx (lookupG []) (fun k st => .fail) 1
theorem bound_grow_v2_ox : AX AE_bound_grow_v2 := Afs (F := AF_bound_grow_v2) (fn := Tryz.f215) (m := []) (ents_sound trivial) Tryz.func215 trivial
def AS_bound_bounds_use : Shape := ⟨[(0, (.ptr 0 tbound_bounds 0 [])), (1, (.dat tapi_Use))], [.box 240 tbound_bounds (.agg [(.agg [(.agg [(.dat (.int .i64)), (.dat (.int .i64))]), (.agg [(.dat (.int .i64)), (.dat (.int .i64))])])])]⟩
def AZ_bound_bounds_use : Shape := ⟨[], [.box 240 tbound_bounds (.agg [(.agg [(.agg [(.dat (.int .i64)), (.dat (.int .i64))]), (.agg [(.dat (.int .i64)), (.dat (.int .i64))])])])]⟩
def AE_bound_bounds_use : Ent := ⟨166, AS_bound_bounds_use, AZ_bound_bounds_use, bound_bounds_use⟩
def AF_bound_bounds_use : Fx := mkFx Acx (lookupG [AE_bound_grow, AE_bound_grow_v2]) (fun k st => .fail) 1
theorem bound_bounds_use_ox : AX AE_bound_bounds_use := Afs (F := AF_bound_bounds_use) (fn := Tryz.f166) (m := []) (ents_sound ⟨(bound_grow_ox), (bound_grow_v2_ox), trivial⟩) Tryz.func166 trivial
def AS_slices_Backward_api_Msg_api_Msg : Shape := ⟨[(0, (.dat (.list tapi_Msg)))], []⟩
def AZ_slices_Backward_api_Msg_api_Msg : Shape := ⟨[(0, (.fn 216 [] [(.ptr 0 (.list tapi_Msg) 0 [])]))], [.box 46 (.list tapi_Msg) (.dat (.list tapi_Msg))]⟩
def AE_slices_Backward_api_Msg_api_Msg : Ent := ⟨167, AS_slices_Backward_api_Msg_api_Msg, AZ_slices_Backward_api_Msg_api_Msg, slices_Backward_api_Msg_api_Msg⟩
def AF_slices_Backward_api_Msg_api_Msg : Fx := AF0 []
theorem slices_Backward_api_Msg_api_Msg_ox : AX AE_slices_Backward_api_Msg_api_Msg := Afs (F := AF_slices_Backward_api_Msg_api_Msg) (fn := Tryz.f167) (m := []) (ents_sound trivial) Tryz.func167 trivial
end D
/- Entries, by program. -/
set_option linter.unusedVariables false
set_option maxRecDepth 100000
open Go Go.X Go.Proofs D
namespace D
end D
/- Entries, by program. -/
set_option linter.unusedVariables false
set_option maxRecDepth 100000
open Go Go.X Go.Proofs D
namespace D
def AL_bound_reader_of_0 : Lp := ⟨⟨[(3, (.dat (.list tapi_Span))), (10, (.ptr 0 tapi_Sum 0 [])), (14, (.ptr 1 .opq 0 [])), (49, (.dat (.list tapi_Pair))), (50, (.dat (.int .i64))), (51, (.dat (.int .i64)))], [.box 164 tapi_Sum (.agg [(.agg [(.dat (.int .i64)), (.dat (.int .i64))]), (.agg [(.dat (.int .i64)), (.dat (.int .i64))])]), .box 238 .opq (.ptr 2 tbound_bounds 0 []), .box 240 tbound_bounds (.agg [(.agg [(.agg [(.dat (.int .i64)), (.dat (.int .i64))]), (.agg [(.dat (.int .i64)), (.dat (.int .i64))])])])]⟩, (.exit 0), ⟨[(10, (.ptr 0 tapi_Sum 0 [])), (14, (.ptr 1 .opq 0 []))], [.box 164 tapi_Sum (.agg [(.agg [(.dat (.int .i64)), (.dat (.int .i64))]), (.agg [(.dat (.int .i64)), (.dat (.int .i64))])]), .box 238 .opq (.ptr 2 tbound_bounds 0 []), .box 240 tbound_bounds (.agg [(.agg [(.agg [(.dat (.int .i64)), (.dat (.int .i64))]), (.agg [(.dat (.int .i64)), (.dat (.int .i64))])])])]⟩, (.exit 80000000), ⟨[], []⟩⟩
def AS_bound_reader_of : Shape := ⟨[(0, (.dat tbound_reader)), (1, (.dat (.int .i64))), (2, (.dat tapi_Span)), (3, (.dat (.list tapi_Span))), (4, (.dat (.int .i64)))], []⟩
def AZ_bound_reader_of : Shape := ⟨[(0, (.dat tapi_Sum)), (1, (.dat (.int .i64)))], []⟩
def AE_bound_reader_of : Ent := ⟨125, AS_bound_reader_of, AZ_bound_reader_of, bound_reader_of⟩
def AF_bound_reader_of : Fx := { cx := Acx, Γ := lookupG [AE_pool_Get, AE_bound_list_has, AE_entry_Charge, AE_bound_bounds_use, AE_slices_Backward_api_Msg_api_Msg], Λ := fun k st => bif Nat.beq k 0 then AL_bound_reader_of_0.go (bound_reader_of_l0) 0 st else .fail, keep := fun _ => none, m := 0, rfs := fun k => bif Nat.beq k 15 then some 1012500 else none, its := [] }
theorem bound_reader_of_eq (s : AS_bound_reader_of.ty.den) : @Eq (Option AZ_bound_reader_of.ty.den) (evFn (AF_bound_reader_of) Tryz.f125 AS_bound_reader_of AZ_bound_reader_of s).val (bound_reader_of s) := by kernel_rfl
theorem bound_reader_of_hG : GSound Tryz.prog (AF_bound_reader_of).Γ := ents_sound ⟨(pool_Get_ox), (bound_list_has_ox), (entry_Charge_ox), (bound_bounds_use_ox), (slices_Backward_api_Msg_api_Msg_ox), trivial⟩
theorem bound_reader_of_la1 : LamOK Tryz.prog (AF_bound_reader_of) Tryz.f125.ntmps 6 (loopAt (bodyOf Tryz.f125) 1) := lam_none (fun _ => rfl)
theorem bound_reader_of_la2 : LamOK Tryz.prog (AF_bound_reader_of) Tryz.f125.ntmps 8 (loopAt (bodyOf Tryz.f125) 2) := lam_none (fun _ => rfl)
theorem bound_reader_of_la0 : LamOK Tryz.prog (AF_bound_reader_of) Tryz.f125.ntmps 0 (loopAt (bodyOf Tryz.f125) 0) := Als (L := AL_bound_reader_of_0) (b := bound_reader_of_b0) (m := []) bound_reader_of_hG trivial
theorem bound_reader_of_ok : EntOK Tryz.prog (AE_bound_reader_of) :=
  fun_sound (F := (AF_bound_reader_of)) Atab (bound_reader_of_hG) Amixed (fn := Tryz.f125) (m := [(0, loopAt (bodyOf Tryz.f125) 0), (6, loopAt (bodyOf Tryz.f125) 1), (8, loopAt (bodyOf Tryz.f125) 2)]) Tryz.func125 (by kernel_rfl) (by kernel_rfl) (by kernel_rfl) ⟨bound_reader_of_la0, bound_reader_of_la1, bound_reader_of_la2, trivial⟩ (rfOK_of (m := [(15, rcAt Tryz.f125 0)]) (its := []) (by kernel_rfl) ⟨rf_one (Y := 1012500) (by kernel_rfl) (by kernel_rfl), trivial⟩ (by kernel_rfl) trivial) (by kernel_rfl) (bound_reader_of_eq)
theorem bound_reader_of_ox : AX (AE_bound_reader_of) := (bound_reader_of_ok).x (by kernel_rfl)
def AS_bound_Of : Shape := ⟨[(0, (.dat tapi_Tree)), (1, (.dat .str)), (2, (.dat (.int .i64)))], []⟩
def AZ_bound_Of : Shape := ⟨[(0, (.dat tapi_Sum)), (1, (.dat (.int .i64)))], []⟩
def AE_bound_Of : Ent := ⟨81, AS_bound_Of, AZ_bound_Of, bound_Of⟩
def AF_bound_Of : Fx := AF0 [AE_span_Prefix, AE_path_Valid, AE_bound_reader_of]
theorem bound_Of_ox : AX AE_bound_Of := Afs (F := AF_bound_Of) (fn := Tryz.f81) (m := []) (ents_sound ⟨(span_Prefix_ox), (path_Valid_ox), (bound_reader_of_ox), trivial⟩) Tryz.func81 trivial
def AS_decide_ends : Shape := ⟨[(0, (.dat tapi_Sum))], []⟩
def AZ_decide_ends : Shape := ⟨[(0, (.dat tapi_Use)), (1, (.dat tapi_Use))], []⟩
def AE_decide_ends : Ent := ⟨82, AS_decide_ends, AZ_decide_ends, decide_ends⟩
def AF_decide_ends : Fx := AF0 []
theorem decide_ends_ox : AX AE_decide_ends := Afs (F := AF_decide_ends) (fn := Tryz.f82) (m := []) (ents_sound trivial) Tryz.func82 trivial
def AL_decide_Allows_0 : Lp := ⟨⟨[(1, (.dat (.list tapi_Quota))), (2, (.dat (.list tapi_Hold))), (4, (.ptr 0 tapi_Tree 0 [])), (28, (.dat (.list tapi_Msg))), (29, (.dat (.int .i64))), (30, (.dat (.int .i64)))], [.box 43 tapi_Tree (.dat tapi_Tree)]⟩, .ret, ⟨[(8, (.dat .bool)), (9, (.dat (.int .i64))), (10, (.dat (.int .i64)))], []⟩, (.exit 0), ⟨[(1, (.dat (.list tapi_Quota))), (2, (.dat (.list tapi_Hold))), (4, (.ptr 0 tapi_Tree 0 []))], [.box 43 tapi_Tree (.dat tapi_Tree)]⟩⟩
def AL_decide_Allows_2 : Lp := ⟨⟨[(4, (.ptr 0 tapi_Tree 0 [])), (15, (.fn 80 [(.dat (.list tapi_Hold))] [])), (16, (.dat (.int .i64))), (17, (.dat (.int .i64))), (19, (.ptr 1 tapi_Quota 0 [])), (20, (.ptr 2 tapi_Use 0 [])), (21, (.dat (.int .i64))), (49, (.dat (.list tapi_Quota))), (50, (.dat (.int .i64))), (51, (.dat (.int .i64)))], [.box 43 tapi_Tree (.dat tapi_Tree), .box 66 tapi_Quota (.dat tapi_Quota), .box 32 tapi_Use (.dat tapi_Use)]⟩, .ret, ⟨[(8, (.dat .bool)), (9, (.dat (.int .i64))), (10, (.dat (.int .i64)))], []⟩, (.exit 3), ⟨[(4, (.ptr 0 tapi_Tree 0 [])), (15, (.fn 80 [(.dat (.list tapi_Hold))] [])), (16, (.dat (.int .i64))), (17, (.dat (.int .i64))), (49, (.dat (.list tapi_Quota))), (50, (.dat (.int .i64))), (51, (.dat (.int .i64)))], [.box 43 tapi_Tree (.dat tapi_Tree)]⟩⟩
def AL_decide_Allows_1 : Lp := ⟨⟨[(4, (.ptr 0 tapi_Tree 0 [])), (15, (.fn 80 [(.dat (.list tapi_Hold))] [])), (16, (.dat (.int .i64))), (17, (.dat (.int .i64))), (49, (.dat (.list tapi_Quota))), (50, (.dat (.int .i64))), (51, (.dat (.int .i64)))], [.box 43 tapi_Tree (.dat tapi_Tree)]⟩, .ret, ⟨[(8, (.dat .bool)), (9, (.dat (.int .i64))), (10, (.dat (.int .i64)))], []⟩, (.exit 2), ⟨[(17, (.dat (.int .i64)))], []⟩⟩
def AS_decide_Allows : Shape := ⟨[(0, (.dat tapi_Tree)), (1, (.dat (.list tapi_Quota))), (2, (.dat (.list tapi_Hold))), (3, (.dat (.list tapi_Msg)))], []⟩
def AZ_decide_Allows : Shape := ⟨[(0, (.dat .bool)), (1, (.dat (.int .i64))), (2, (.dat (.int .i64)))], []⟩
def AE_decide_Allows : Ent := ⟨44, AS_decide_Allows, AZ_decide_Allows, decide_Allows⟩
def AF_decide_Allows : Fx := mkFx Acx (lookupG [AE_tree_Add, AE_decide_most, AE_tree_Height, AE_decide_holds_room, AE_bound_Of, AE_decide_ends]) (fun k st => bif Nat.beq k 0 then AL_decide_Allows_0.go (decide_Allows_l0) 0 st else bif Nat.beq k 4 then AL_decide_Allows_2.go (decide_Allows_l2) 0 st else bif Nat.beq k 2 then AL_decide_Allows_1.go (decide_Allows_l1) 0 st else .fail) 0
theorem decide_Allows_hG : GSound Tryz.prog (AF_decide_Allows).Γ := ents_sound ⟨(tree_Add_ox), (decide_most_ox), (tree_Height_ox), (decide_holds_room_ox), (bound_Of_ox), (decide_ends_ox), trivial⟩
theorem decide_Allows_la0 : LamOK Tryz.prog (AF_decide_Allows) Tryz.f44.ntmps 0 (loopAt (bodyOf Tryz.f44) 0) := Als (L := AL_decide_Allows_0) (b := decide_Allows_b0) (m := []) decide_Allows_hG trivial
theorem decide_Allows_la2 : LamOK Tryz.prog (AF_decide_Allows) Tryz.f44.ntmps 4 (loopAt (bodyOf Tryz.f44) 2) := Als (L := AL_decide_Allows_2) (b := decide_Allows_b2) (m := []) decide_Allows_hG trivial
theorem decide_Allows_la1 : LamOK Tryz.prog (AF_decide_Allows) Tryz.f44.ntmps 2 (loopAt (bodyOf Tryz.f44) 1) := Als (L := AL_decide_Allows_1) (b := decide_Allows_b1) (m := [(4, loopAt (bodyOf Tryz.f44) 2)]) decide_Allows_hG ⟨decide_Allows_la2, trivial⟩
theorem decide_Allows_ox : AX AE_decide_Allows := Afs (F := AF_decide_Allows) (fn := Tryz.f44) (m := [(0, loopAt (bodyOf Tryz.f44) 0), (2, loopAt (bodyOf Tryz.f44) 1), (4, loopAt (bodyOf Tryz.f44) 2)]) decide_Allows_hG Tryz.func44 ⟨decide_Allows_la0, decide_Allows_la1, decide_Allows_la2, trivial⟩
def AS_law22_allows : Shape := ⟨[(0, (.dat tlaw22_given))], []⟩
def AZ_law22_allows : Shape := ⟨[(0, (.dat tref22_Decided))], []⟩
def AE_law22_allows : Ent := ⟨17, AS_law22_allows, AZ_law22_allows, law22_allows⟩
def AF_law22_allows : Fx := AF0 [AE_decide_Allows]
theorem law22_allows_ok : EntOK Tryz.prog AE_law22_allows := Afk (F := AF_law22_allows) (fn := Tryz.f17) (m := []) (ents_sound ⟨(decide_Allows_ox), trivial⟩) Tryz.func17 trivial
end D
/- Entries, by program. -/
set_option linter.unusedVariables false
set_option maxRecDepth 100000
open Go Go.X Go.Proofs D
namespace D
def AL_law22_sanity_c100005 : Lp := ⟨⟨[(1, (.ptr 0 tapi_Tree 0 [])), (50, (.dat .bool))], [.box 43 tapi_Tree (.dat tapi_Tree)]⟩, .nrm, ⟨[(1, (.ptr 0 tapi_Tree 0 []))], [.box 43 tapi_Tree (.dat tapi_Tree)]⟩, .ret, ⟨[(0, (.dat .bool))], []⟩⟩
def AL_law22_sanity_c6 : Lp := ⟨⟨[(1, (.ptr 0 tapi_Tree 0 []))], [.box 43 tapi_Tree (.dat tapi_Tree)]⟩, .ret, ⟨[(0, (.dat .bool))], []⟩, (.exit 90000006), ⟨[], []⟩⟩
def AS_law22_sanity : Shape := ⟨[], []⟩
def AZ_law22_sanity : Shape := ⟨[(0, (.dat .bool))], []⟩
def AE_law22_sanity : Ent := ⟨10, AS_law22_sanity, AZ_law22_sanity, law22_sanity⟩
def AF_law22_sanity (x_tree_New : ((api_Shape) × Unit) → Option ((api_Tree) × (Int) × Unit)) (x_tree_Add : ((api_Tree) × (api_Msg) × Unit) → Option ((api_Tree) × (Int) × Unit)) (x_ref12_Valid : ((api_Tree) × Unit) → Option ((Bool) × Unit)) (x_decide_Reserve : ((List (api_Hold)) × (api_Hold) × Unit) → Option ((List (api_Hold)) × (Int) × Unit)) (x_decide_Release : ((List (api_Hold)) × (Int) × Unit) → Option ((List (api_Hold)) × (Int) × Unit)) (x_law22_allows : ((law22_given) × Unit) → Option ((ref22_Decided) × Unit)) : Fx := AF0 [⟨33, AS_tree_New, AZ_tree_New, x_tree_New⟩, ⟨34, AS_tree_Add, AZ_tree_Add, x_tree_Add⟩, ⟨35, AS_ref12_Valid, AZ_ref12_Valid, x_ref12_Valid⟩, ⟨13, AS_decide_Reserve, AZ_decide_Reserve, x_decide_Reserve⟩, ⟨15, AS_decide_Release, AZ_decide_Release, x_decide_Release⟩, ⟨17, AS_law22_allows, AZ_law22_allows, x_law22_allows⟩]
def AC_law22_sanity (x_tree_New : ((api_Shape) × Unit) → Option ((api_Tree) × (Int) × Unit)) (x_tree_Add : ((api_Tree) × (api_Msg) × Unit) → Option ((api_Tree) × (Int) × Unit)) (x_ref12_Valid : ((api_Tree) × Unit) → Option ((Bool) × Unit)) (x_decide_Reserve : ((List (api_Hold)) × (api_Hold) × Unit) → Option ((List (api_Hold)) × (Int) × Unit)) (x_decide_Release : ((List (api_Hold)) × (Int) × Unit) → Option ((List (api_Hold)) × (Int) × Unit)) (x_law22_allows : ((law22_given) × Unit) → Option ((ref22_Decided) × Unit)) : Cuts := [(100005, AL_law22_sanity_c100005.go (law22_sanity_c100005 x_tree_New x_tree_Add x_ref12_Valid x_decide_Reserve x_decide_Release x_law22_allows) 0), (6, AL_law22_sanity_c6.go (law22_sanity_c6 x_tree_New x_tree_Add x_ref12_Valid x_decide_Reserve x_decide_Release x_law22_allows) 0)]
theorem law22_sanity_c100005_eq (x_tree_New : ((api_Shape) × Unit) → Option ((api_Tree) × (Int) × Unit)) (x_tree_Add : ((api_Tree) × (api_Msg) × Unit) → Option ((api_Tree) × (Int) × Unit)) (x_ref12_Valid : ((api_Tree) × Unit) → Option ((Bool) × Unit)) (x_decide_Reserve : ((List (api_Hold)) × (api_Hold) × Unit) → Option ((List (api_Hold)) × (Int) × Unit)) (x_decide_Release : ((List (api_Hold)) × (Int) × Unit) → Option ((List (api_Hold)) × (Int) × Unit)) (x_law22_allows : ((law22_given) × Unit) → Option ((ref22_Decided) × Unit)) (s : AL_law22_sanity_c100005.S.ty.den) : @Eq (Option AL_law22_sanity_c100005.Out) ((evK (AF_law22_sanity x_tree_New x_tree_Add x_ref12_Valid x_decide_Reserve x_decide_Release x_law22_allows) (AC_law22_sanity x_tree_New x_tree_Add x_ref12_Valid x_decide_Reserve x_decide_Release x_law22_allows) (tailOf (bodyOf Tryz.f10) 100005) 0 (AL_law22_sanity_c100005.S.enc s)).bind fun (e, st) => AL_law22_sanity_c100005.out (AF_law22_sanity x_tree_New x_tree_Add x_ref12_Valid x_decide_Reserve x_decide_Release x_law22_allows).m e st).val (law22_sanity_c100005 x_tree_New x_tree_Add x_ref12_Valid x_decide_Reserve x_decide_Release x_law22_allows s) := by kernel_rfl
theorem law22_sanity_c6_eq (x_tree_New : ((api_Shape) × Unit) → Option ((api_Tree) × (Int) × Unit)) (x_tree_Add : ((api_Tree) × (api_Msg) × Unit) → Option ((api_Tree) × (Int) × Unit)) (x_ref12_Valid : ((api_Tree) × Unit) → Option ((Bool) × Unit)) (x_decide_Reserve : ((List (api_Hold)) × (api_Hold) × Unit) → Option ((List (api_Hold)) × (Int) × Unit)) (x_decide_Release : ((List (api_Hold)) × (Int) × Unit) → Option ((List (api_Hold)) × (Int) × Unit)) (x_law22_allows : ((law22_given) × Unit) → Option ((ref22_Decided) × Unit)) (s : AL_law22_sanity_c6.S.ty.den) : @Eq (Option AL_law22_sanity_c6.Out) ((evK (AF_law22_sanity x_tree_New x_tree_Add x_ref12_Valid x_decide_Reserve x_decide_Release x_law22_allows) (AC_law22_sanity x_tree_New x_tree_Add x_ref12_Valid x_decide_Reserve x_decide_Release x_law22_allows) (tailOf (bodyOf Tryz.f10) 6) 0 (AL_law22_sanity_c6.S.enc s)).bind fun (e, st) => AL_law22_sanity_c6.out (AF_law22_sanity x_tree_New x_tree_Add x_ref12_Valid x_decide_Reserve x_decide_Release x_law22_allows).m e st).val (law22_sanity_c6 x_tree_New x_tree_Add x_ref12_Valid x_decide_Reserve x_decide_Release x_law22_allows s) := by kernel_rfl
theorem law22_sanity_eq (x_tree_New : ((api_Shape) × Unit) → Option ((api_Tree) × (Int) × Unit)) (x_tree_Add : ((api_Tree) × (api_Msg) × Unit) → Option ((api_Tree) × (Int) × Unit)) (x_ref12_Valid : ((api_Tree) × Unit) → Option ((Bool) × Unit)) (x_decide_Reserve : ((List (api_Hold)) × (api_Hold) × Unit) → Option ((List (api_Hold)) × (Int) × Unit)) (x_decide_Release : ((List (api_Hold)) × (Int) × Unit) → Option ((List (api_Hold)) × (Int) × Unit)) (x_law22_allows : ((law22_given) × Unit) → Option ((ref22_Decided) × Unit)) (s : AS_law22_sanity.ty.den) : @Eq (Option AZ_law22_sanity.ty.den) (evFnK (AF_law22_sanity x_tree_New x_tree_Add x_ref12_Valid x_decide_Reserve x_decide_Release x_law22_allows) (AC_law22_sanity x_tree_New x_tree_Add x_ref12_Valid x_decide_Reserve x_decide_Release x_law22_allows) Tryz.f10 AS_law22_sanity AZ_law22_sanity s).val (law22_sanity_step x_tree_New x_tree_Add x_ref12_Valid x_decide_Reserve x_decide_Release x_law22_allows s) := by kernel_rfl
theorem law22_sanity_hG (x_tree_New : ((api_Shape) × Unit) → Option ((api_Tree) × (Int) × Unit)) (x_tree_New_ok : EntOK Tryz.prog ⟨33, AS_tree_New, AZ_tree_New, x_tree_New⟩) (x_tree_Add : ((api_Tree) × (api_Msg) × Unit) → Option ((api_Tree) × (Int) × Unit)) (x_tree_Add_ok : EntOK Tryz.prog ⟨34, AS_tree_Add, AZ_tree_Add, x_tree_Add⟩) (x_ref12_Valid : ((api_Tree) × Unit) → Option ((Bool) × Unit)) (x_ref12_Valid_ok : EntOK Tryz.prog ⟨35, AS_ref12_Valid, AZ_ref12_Valid, x_ref12_Valid⟩) (x_decide_Reserve : ((List (api_Hold)) × (api_Hold) × Unit) → Option ((List (api_Hold)) × (Int) × Unit)) (x_decide_Reserve_ok : EntOK Tryz.prog ⟨13, AS_decide_Reserve, AZ_decide_Reserve, x_decide_Reserve⟩) (x_decide_Release : ((List (api_Hold)) × (Int) × Unit) → Option ((List (api_Hold)) × (Int) × Unit)) (x_decide_Release_ok : EntOK Tryz.prog ⟨15, AS_decide_Release, AZ_decide_Release, x_decide_Release⟩) (x_law22_allows : ((law22_given) × Unit) → Option ((ref22_Decided) × Unit)) (x_law22_allows_ok : EntOK Tryz.prog ⟨17, AS_law22_allows, AZ_law22_allows, x_law22_allows⟩) : GSound Tryz.prog (AF_law22_sanity x_tree_New x_tree_Add x_ref12_Valid x_decide_Reserve x_decide_Release x_law22_allows).Γ := ents_sound ⟨(x_tree_New_ok.x (by kernel_rfl)), (x_tree_Add_ok.x (by kernel_rfl)), (x_ref12_Valid_ok.x (by kernel_rfl)), (x_decide_Reserve_ok.x (by kernel_rfl)), (x_decide_Release_ok.x (by kernel_rfl)), (x_law22_allows_ok.x (by kernel_rfl)), trivial⟩
theorem law22_sanity_c100005_ok (x_tree_New : ((api_Shape) × Unit) → Option ((api_Tree) × (Int) × Unit)) (x_tree_New_ok : EntOK Tryz.prog ⟨33, AS_tree_New, AZ_tree_New, x_tree_New⟩) (x_tree_Add : ((api_Tree) × (api_Msg) × Unit) → Option ((api_Tree) × (Int) × Unit)) (x_tree_Add_ok : EntOK Tryz.prog ⟨34, AS_tree_Add, AZ_tree_Add, x_tree_Add⟩) (x_ref12_Valid : ((api_Tree) × Unit) → Option ((Bool) × Unit)) (x_ref12_Valid_ok : EntOK Tryz.prog ⟨35, AS_ref12_Valid, AZ_ref12_Valid, x_ref12_Valid⟩) (x_decide_Reserve : ((List (api_Hold)) × (api_Hold) × Unit) → Option ((List (api_Hold)) × (Int) × Unit)) (x_decide_Reserve_ok : EntOK Tryz.prog ⟨13, AS_decide_Reserve, AZ_decide_Reserve, x_decide_Reserve⟩) (x_decide_Release : ((List (api_Hold)) × (Int) × Unit) → Option ((List (api_Hold)) × (Int) × Unit)) (x_decide_Release_ok : EntOK Tryz.prog ⟨15, AS_decide_Release, AZ_decide_Release, x_decide_Release⟩) (x_law22_allows : ((law22_given) × Unit) → Option ((ref22_Decided) × Unit)) (x_law22_allows_ok : EntOK Tryz.prog ⟨17, AS_law22_allows, AZ_law22_allows, x_law22_allows⟩) : CutOK Tryz.prog (AF_law22_sanity x_tree_New x_tree_Add x_ref12_Valid x_decide_Reserve x_decide_Release x_law22_allows) Tryz.f10.ntmps (AL_law22_sanity_c100005.go (law22_sanity_c100005 x_tree_New x_tree_Add x_ref12_Valid x_decide_Reserve x_decide_Release x_law22_allows) 0) (tailOf (bodyOf Tryz.f10) 100005) :=
  cut_sound Atab (law22_sanity_hG x_tree_New x_tree_New_ok x_tree_Add x_tree_Add_ok x_ref12_Valid x_ref12_Valid_ok x_decide_Reserve x_decide_Reserve_ok x_decide_Release x_decide_Release_ok x_law22_allows x_law22_allows_ok) Amixed (L := AL_law22_sanity_c100005) (k := 0) (f := law22_sanity_c100005 x_tree_New x_tree_Add x_ref12_Valid x_decide_Reserve x_decide_Release x_law22_allows) (C := (AC_law22_sanity x_tree_New x_tree_Add x_ref12_Valid x_decide_Reserve x_decide_Release x_law22_allows)) (l := []) (m := []) (by kernel_rfl) trivial (by kernel_rfl) trivial (by kernel_rfl) (rfOK_no _ (by kernel_rfl)) (law22_sanity_c100005_eq x_tree_New x_tree_Add x_ref12_Valid x_decide_Reserve x_decide_Release x_law22_allows)
theorem law22_sanity_c6_ok (x_tree_New : ((api_Shape) × Unit) → Option ((api_Tree) × (Int) × Unit)) (x_tree_New_ok : EntOK Tryz.prog ⟨33, AS_tree_New, AZ_tree_New, x_tree_New⟩) (x_tree_Add : ((api_Tree) × (api_Msg) × Unit) → Option ((api_Tree) × (Int) × Unit)) (x_tree_Add_ok : EntOK Tryz.prog ⟨34, AS_tree_Add, AZ_tree_Add, x_tree_Add⟩) (x_ref12_Valid : ((api_Tree) × Unit) → Option ((Bool) × Unit)) (x_ref12_Valid_ok : EntOK Tryz.prog ⟨35, AS_ref12_Valid, AZ_ref12_Valid, x_ref12_Valid⟩) (x_decide_Reserve : ((List (api_Hold)) × (api_Hold) × Unit) → Option ((List (api_Hold)) × (Int) × Unit)) (x_decide_Reserve_ok : EntOK Tryz.prog ⟨13, AS_decide_Reserve, AZ_decide_Reserve, x_decide_Reserve⟩) (x_decide_Release : ((List (api_Hold)) × (Int) × Unit) → Option ((List (api_Hold)) × (Int) × Unit)) (x_decide_Release_ok : EntOK Tryz.prog ⟨15, AS_decide_Release, AZ_decide_Release, x_decide_Release⟩) (x_law22_allows : ((law22_given) × Unit) → Option ((ref22_Decided) × Unit)) (x_law22_allows_ok : EntOK Tryz.prog ⟨17, AS_law22_allows, AZ_law22_allows, x_law22_allows⟩) : CutOK Tryz.prog (AF_law22_sanity x_tree_New x_tree_Add x_ref12_Valid x_decide_Reserve x_decide_Release x_law22_allows) Tryz.f10.ntmps (AL_law22_sanity_c6.go (law22_sanity_c6 x_tree_New x_tree_Add x_ref12_Valid x_decide_Reserve x_decide_Release x_law22_allows) 0) (tailOf (bodyOf Tryz.f10) 6) :=
  cut_sound Atab (law22_sanity_hG x_tree_New x_tree_New_ok x_tree_Add x_tree_Add_ok x_ref12_Valid x_ref12_Valid_ok x_decide_Reserve x_decide_Reserve_ok x_decide_Release x_decide_Release_ok x_law22_allows x_law22_allows_ok) Amixed (L := AL_law22_sanity_c6) (k := 0) (f := law22_sanity_c6 x_tree_New x_tree_Add x_ref12_Valid x_decide_Reserve x_decide_Release x_law22_allows) (C := (AC_law22_sanity x_tree_New x_tree_Add x_ref12_Valid x_decide_Reserve x_decide_Release x_law22_allows)) (l := []) (m := []) (by kernel_rfl) trivial (by kernel_rfl) trivial (by kernel_rfl) (rfOK_no _ (by kernel_rfl)) (law22_sanity_c6_eq x_tree_New x_tree_Add x_ref12_Valid x_decide_Reserve x_decide_Release x_law22_allows)
theorem law22_sanity_step_ok (x_tree_New : ((api_Shape) × Unit) → Option ((api_Tree) × (Int) × Unit)) (x_tree_New_ok : EntOK Tryz.prog ⟨33, AS_tree_New, AZ_tree_New, x_tree_New⟩) (x_tree_Add : ((api_Tree) × (api_Msg) × Unit) → Option ((api_Tree) × (Int) × Unit)) (x_tree_Add_ok : EntOK Tryz.prog ⟨34, AS_tree_Add, AZ_tree_Add, x_tree_Add⟩) (x_ref12_Valid : ((api_Tree) × Unit) → Option ((Bool) × Unit)) (x_ref12_Valid_ok : EntOK Tryz.prog ⟨35, AS_ref12_Valid, AZ_ref12_Valid, x_ref12_Valid⟩) (x_decide_Reserve : ((List (api_Hold)) × (api_Hold) × Unit) → Option ((List (api_Hold)) × (Int) × Unit)) (x_decide_Reserve_ok : EntOK Tryz.prog ⟨13, AS_decide_Reserve, AZ_decide_Reserve, x_decide_Reserve⟩) (x_decide_Release : ((List (api_Hold)) × (Int) × Unit) → Option ((List (api_Hold)) × (Int) × Unit)) (x_decide_Release_ok : EntOK Tryz.prog ⟨15, AS_decide_Release, AZ_decide_Release, x_decide_Release⟩) (x_law22_allows : ((law22_given) × Unit) → Option ((ref22_Decided) × Unit)) (x_law22_allows_ok : EntOK Tryz.prog ⟨17, AS_law22_allows, AZ_law22_allows, x_law22_allows⟩) : EntOK Tryz.prog ⟨10, AS_law22_sanity, AZ_law22_sanity, law22_sanity_step x_tree_New x_tree_Add x_ref12_Valid x_decide_Reserve x_decide_Release x_law22_allows⟩ :=
  fun_soundK (C := (AC_law22_sanity x_tree_New x_tree_Add x_ref12_Valid x_decide_Reserve x_decide_Release x_law22_allows)) (F := (AF_law22_sanity x_tree_New x_tree_Add x_ref12_Valid x_decide_Reserve x_decide_Release x_law22_allows)) Atab (law22_sanity_hG x_tree_New x_tree_New_ok x_tree_Add x_tree_Add_ok x_ref12_Valid x_ref12_Valid_ok x_decide_Reserve x_decide_Reserve_ok x_decide_Release x_decide_Release_ok x_law22_allows x_law22_allows_ok) Amixed (fn := Tryz.f10) (l := []) (m := [(AL_law22_sanity_c100005.go (law22_sanity_c100005 x_tree_New x_tree_Add x_ref12_Valid x_decide_Reserve x_decide_Release x_law22_allows) 0, tailOf (bodyOf Tryz.f10) 100005), (AL_law22_sanity_c6.go (law22_sanity_c6 x_tree_New x_tree_Add x_ref12_Valid x_decide_Reserve x_decide_Release x_law22_allows) 0, tailOf (bodyOf Tryz.f10) 6)]) Tryz.func10 (by kernel_rfl) (by kernel_rfl) (by kernel_rfl) trivial (by kernel_rfl) ⟨law22_sanity_c100005_ok x_tree_New x_tree_New_ok x_tree_Add x_tree_Add_ok x_ref12_Valid x_ref12_Valid_ok x_decide_Reserve x_decide_Reserve_ok x_decide_Release x_decide_Release_ok x_law22_allows x_law22_allows_ok, law22_sanity_c6_ok x_tree_New x_tree_New_ok x_tree_Add x_tree_Add_ok x_ref12_Valid x_ref12_Valid_ok x_decide_Reserve x_decide_Reserve_ok x_decide_Release x_decide_Release_ok x_law22_allows x_law22_allows_ok, trivial⟩ (rfOK_no _ (by kernel_rfl)) (by kernel_rfl) (law22_sanity_eq x_tree_New x_tree_Add x_ref12_Valid x_decide_Reserve x_decide_Release x_law22_allows)
theorem law22_sanity_ok : EntOK Tryz.prog AE_law22_sanity := law22_sanity_step_ok tree_New tree_New_ok tree_Add tree_Add_ok ref12_Valid ref12_Valid_ok decide_Reserve decide_Reserve_ok decide_Release decide_Release_ok law22_allows law22_allows_ok
theorem law22_sanity_ox : AX (AE_law22_sanity) := (law22_sanity_ok).x (by kernel_rfl)
def AS_ref05_Path : Shape := ⟨[(0, (.dat (.int .u8)))], []⟩
def AZ_ref05_Path : Shape := ⟨[(0, (.dat .str))], []⟩
def AE_ref05_Path : Ent := ⟨95, AS_ref05_Path, AZ_ref05_Path, ref05_Path⟩
def AF_ref05_Path : Fx := AF0 []
theorem ref05_Path_ox : AX AE_ref05_Path := Afs (F := AF_ref05_Path) (fn := Tryz.f95) (m := []) (ents_sound trivial) Tryz.func95 trivial
def AS_ref20_Path : Shape := ⟨[(0, (.dat (.int .u8)))], []⟩
def AZ_ref20_Path : Shape := ⟨[(0, (.dat .str))], []⟩
def AE_ref20_Path : Ent := ⟨51, AS_ref20_Path, AZ_ref20_Path, ref20_Path⟩
def AF_ref20_Path : Fx := AF0 [AE_ref05_Path]
theorem ref20_Path_ox : AX AE_ref20_Path := Afs (F := AF_ref20_Path) (fn := Tryz.f51) (m := []) (ents_sound ⟨(ref05_Path_ox), trivial⟩) Tryz.func51 trivial
def AS_ref22_in : Shape := ⟨[(0, (.dat (.int .i64)))], []⟩
def AZ_ref22_in : Shape := ⟨[(0, (.dat .bool))], []⟩
def AE_ref22_in : Ent := ⟨53, AS_ref22_in, AZ_ref22_in, ref22_in⟩
def AF_ref22_in : Fx := AF0 []
theorem ref22_in_ox : AX AE_ref22_in := Afs (F := AF_ref22_in) (fn := Tryz.f53) (m := []) (ents_sound trivial) Tryz.func53 trivial
def AS_ref22_Right : Shape := ⟨[(0, (.dat tapi_Hold))], []⟩
def AZ_ref22_Right : Shape := ⟨[(0, (.dat .bool))], []⟩
def AE_ref22_Right : Ent := ⟨26, AS_ref22_Right, AZ_ref22_Right, ref22_Right⟩
def AF_ref22_Right : Fx := AF0 [AE_ref01_Valid, AE_ref22_in]
theorem ref22_Right_ox : AX AE_ref22_Right := Afs (F := AF_ref22_Right) (fn := Tryz.f26) (m := []) (ents_sound ⟨(ref01_Valid_ox), (ref22_in_ox), trivial⟩) Tryz.func26 trivial
def AL_ref22_Has_0 : Lp := ⟨⟨[(0, (.dat (.list tapi_Hold))), (1, (.dat (.int .i64))), (5, (.dat (.int .i64)))], []⟩, .ret, ⟨[(4, (.dat .bool))], []⟩, (.exit 0), ⟨[], []⟩⟩
def AS_ref22_Has : Shape := ⟨[(0, (.dat (.list tapi_Hold))), (1, (.dat (.int .i64)))], []⟩
def AZ_ref22_Has : Shape := ⟨[(0, (.dat .bool))], []⟩
def AE_ref22_Has : Ent := ⟨24, AS_ref22_Has, AZ_ref22_Has, ref22_Has⟩
def AF_ref22_Has : Fx := mkFx Acx (lookupG []) (fun k st => bif Nat.beq k 0 then AL_ref22_Has_0.go (ref22_Has_l0) 0 st else .fail) 0
theorem ref22_Has_hG : GSound Tryz.prog (AF_ref22_Has).Γ := ents_sound trivial
theorem ref22_Has_la0 : LamOK Tryz.prog (AF_ref22_Has) Tryz.f24.ntmps 0 (loopAt (bodyOf Tryz.f24) 0) := Als (L := AL_ref22_Has_0) (b := ref22_Has_b0) (m := []) ref22_Has_hG trivial
theorem ref22_Has_ox : AX AE_ref22_Has := Afs (F := AF_ref22_Has) (fn := Tryz.f24) (m := [(0, loopAt (bodyOf Tryz.f24) 0)]) ref22_Has_hG Tryz.func24 ⟨ref22_Has_la0, trivial⟩
def AS_ref22_Reserve : Shape := ⟨[(0, (.dat (.list tapi_Hold))), (1, (.dat tapi_Hold))], []⟩
def AZ_ref22_Reserve : Shape := ⟨[(0, (.dat (.list tapi_Hold))), (1, (.dat (.int .i64)))], []⟩
def AE_ref22_Reserve : Ent := ⟨14, AS_ref22_Reserve, AZ_ref22_Reserve, ref22_Reserve⟩
def AF_ref22_Reserve : Fx := AF0 [AE_ref22_Right, AE_ref22_Has]
theorem ref22_Reserve_ox : AX AE_ref22_Reserve := Afs (F := AF_ref22_Reserve) (fn := Tryz.f14) (m := []) (ents_sound ⟨(ref22_Right_ox), (ref22_Has_ox), trivial⟩) Tryz.func14 trivial
def AL_ref22_Made_0 : Lp := ⟨⟨[(0, (.dat (.list (.pair (.int .u8) (.pair (.int .u8) (.pair (.int .u8) (.pair (.int .u8) .unit))))))), (3, (.dat (.list tapi_Hold))), (4, (.dat (.int .i64)))], []⟩, (.exit 0), ⟨[(3, (.dat (.list tapi_Hold)))], []⟩, (.exit 80000000), ⟨[], []⟩⟩
def AS_ref22_Made : Shape := ⟨[(0, (.dat (.list (.pair (.int .u8) (.pair (.int .u8) (.pair (.int .u8) (.pair (.int .u8) .unit)))))))], []⟩
def AZ_ref22_Made : Shape := ⟨[(0, (.dat (.list tapi_Hold)))], []⟩
def AE_ref22_Made : Ent := ⟨23, AS_ref22_Made, AZ_ref22_Made, ref22_Made⟩
def AF_ref22_Made : Fx := mkFx Acx (lookupG [AE_ref20_Path, AE_ref22_Reserve]) (fun k st => bif Nat.beq k 0 then AL_ref22_Made_0.go (ref22_Made_l0) 0 st else .fail) 0
theorem ref22_Made_hG : GSound Tryz.prog (AF_ref22_Made).Γ := ents_sound ⟨(ref20_Path_ox), (ref22_Reserve_ox), trivial⟩
theorem ref22_Made_la0 : LamOK Tryz.prog (AF_ref22_Made) Tryz.f23.ntmps 0 (loopAt (bodyOf Tryz.f23) 0) := Als (L := AL_ref22_Made_0) (b := ref22_Made_b0) (m := []) ref22_Made_hG trivial
theorem ref22_Made_ox : AX AE_ref22_Made := Afs (F := AF_ref22_Made) (fn := Tryz.f23) (m := [(0, loopAt (bodyOf Tryz.f23) 0)]) ref22_Made_hG Tryz.func23 ⟨ref22_Made_la0, trivial⟩
def AL_ref22_Same_0 : Lp := ⟨⟨[(0, (.dat (.list tapi_Hold))), (1, (.dat (.list tapi_Hold))), (5, (.dat (.int .i64)))], []⟩, .ret, ⟨[(4, (.dat .bool))], []⟩, (.exit 0), ⟨[], []⟩⟩
def AS_ref22_Same : Shape := ⟨[(0, (.dat (.list tapi_Hold))), (1, (.dat (.list tapi_Hold)))], []⟩
def AZ_ref22_Same : Shape := ⟨[(0, (.dat .bool))], []⟩
def AE_ref22_Same : Ent := ⟨19, AS_ref22_Same, AZ_ref22_Same, ref22_Same⟩
def AF_ref22_Same : Fx := mkFx Acx (lookupG []) (fun k st => bif Nat.beq k 0 then AL_ref22_Same_0.go (ref22_Same_l0) 0 st else .fail) 0
theorem ref22_Same_hG : GSound Tryz.prog (AF_ref22_Same).Γ := ents_sound trivial
theorem ref22_Same_la0 : LamOK Tryz.prog (AF_ref22_Same) Tryz.f19.ntmps 0 (loopAt (bodyOf Tryz.f19) 0) := Als (L := AL_ref22_Same_0) (b := ref22_Same_b0) (m := []) ref22_Same_hG trivial
theorem ref22_Same_ox : AX AE_ref22_Same := Afs (F := AF_ref22_Same) (fn := Tryz.f19) (m := [(0, loopAt (bodyOf Tryz.f19) 0)]) ref22_Same_hG Tryz.func19 ⟨ref22_Same_la0, trivial⟩
def AL_ref22_Valid_0 : Lp := ⟨⟨[(0, (.dat (.list tapi_Hold))), (3, (.dat (.int .i64)))], []⟩, .ret, ⟨[(2, (.dat .bool))], []⟩, (.exit 0), ⟨[(0, (.dat (.list tapi_Hold)))], []⟩⟩
def AS_ref22_Valid : Shape := ⟨[(0, (.dat (.list tapi_Hold)))], []⟩
def AZ_ref22_Valid : Shape := ⟨[(0, (.dat .bool))], []⟩
def AE_ref22_Valid : Ent := ⟨25, AS_ref22_Valid, AZ_ref22_Valid, ref22_Valid⟩
def AF_ref22_Valid : Fx := mkFx Acx (lookupG [AE_ref22_Right, AE_ref22_Has]) (fun k st => bif Nat.beq k 0 then AL_ref22_Valid_0.go (ref22_Valid_l0) 0 st else .fail) 0
theorem ref22_Valid_hG : GSound Tryz.prog (AF_ref22_Valid).Γ := ents_sound ⟨(ref22_Right_ox), (ref22_Has_ox), trivial⟩
theorem ref22_Valid_la0 : LamOK Tryz.prog (AF_ref22_Valid) Tryz.f25.ntmps 0 (loopAt (bodyOf Tryz.f25) 0) := Als (L := AL_ref22_Valid_0) (b := ref22_Valid_b0) (m := []) ref22_Valid_hG trivial
theorem ref22_Valid_ox : AX AE_ref22_Valid := Afs (F := AF_ref22_Valid) (fn := Tryz.f25) (m := [(0, loopAt (bodyOf Tryz.f25) 0)]) ref22_Valid_hG Tryz.func25 ⟨ref22_Valid_la0, trivial⟩
def AS_law22_DecideLists : Shape := ⟨[(0, (.dat (.list (.pair (.int .u8) (.pair (.int .u8) (.pair (.int .u8) (.pair (.int .u8) .unit))))))), (1, (.dat (.pair (.int .u8) (.pair (.int .u8) (.pair (.int .u8) (.pair (.int .u8) .unit))))))], []⟩
def AZ_law22_DecideLists : Shape := ⟨[(0, (.dat .bool))], []⟩
def AE_law22_DecideLists : Ent := ⟨7, AS_law22_DecideLists, AZ_law22_DecideLists, law22_DecideLists⟩
def AF_law22_DecideLists : Fx := AF0 [AE_decide_Reserve, AE_decide_Release, AE_law22_sanity, AE_ref22_Has, AE_ref22_Made, AE_ref22_Same, AE_ref22_Valid]
theorem law22_DecideLists_ok : EntOK Tryz.prog AE_law22_DecideLists := Afk (F := AF_law22_DecideLists) (fn := Tryz.f7) (m := []) (ents_sound ⟨(decide_Reserve_ox), (decide_Release_ox), (law22_sanity_ox), (ref22_Has_ox), (ref22_Made_ox), (ref22_Same_ox), (ref22_Valid_ox), trivial⟩) Tryz.func7 trivial
end D
