/- Entries, by program. -/
import Derived.Test.YtflbampalmnfaaaGreatDoorD
import Derived.Test.YtflbampalmnfaaaGreatDoorChecked
set_option linter.unusedVariables false
set_option maxRecDepth 100000
open Go Go.X Go.Proofs D
namespace D
def Acx : Cx := ⟨[(1, ⟨.opq, 0, [], 8, false, true, false, []⟩), (3, ⟨(.int .i64), 0, [], 8, false, false, false, []⟩), (4, ⟨.bool, 0, [], 1, false, false, false, []⟩), (5, ⟨(.int .u8), 0, [], 1, false, false, false, []⟩), (9, ⟨.str, 0, [], 16, false, false, false, []⟩), (20, ⟨.opq, 0, [], 16, false, false, true, []⟩), (22, ⟨(.list (.pair (.int .u8) (.pair (.int .u8) (.pair (.int .u8) .unit)))), 166, [], 3, false, false, false, []⟩), (23, ⟨(.list (.pair (.int .u8) (.pair (.int .u8) (.pair (.int .u8) (.pair (.int .u8) (.pair (.int .u8) (.pair (.int .u8) .unit))))))), 60, [], 6, false, false, false, []⟩), (24, ⟨(.pair (.list (.pair (.int .u8) (.pair (.int .u8) (.pair (.int .u8) (.pair (.int .u8) (.pair (.int .u8) (.pair (.int .u8) .unit))))))) (.pair (.list (.pair (.int .u8) (.pair (.int .u8) (.pair (.int .u8) (.pair (.int .u8) (.pair (.int .u8) (.pair (.int .u8) .unit))))))) (.pair (.list (.pair (.int .u8) (.pair (.int .u8) (.pair (.int .u8) (.pair (.int .u8) (.pair (.int .u8) (.pair (.int .u8) .unit))))))) (.pair (.list (.pair (.int .u8) (.pair (.int .u8) (.pair (.int .u8) (.pair (.int .u8) (.pair (.int .u8) (.pair (.int .u8) .unit))))))) .unit)))), 0, [23, 23, 23, 23], 96, false, true, false, []⟩), (26, ⟨tref12_Raw, 0, [22, 24, 5], 128, false, false, false, []⟩), (30, ⟨(.list tapi_Slot), 100, [], 136, false, false, false, []⟩), (32, ⟨tapi_Pool, 0, [30], 24, false, false, false, []⟩), (34, ⟨tapi_Shape, 0, [3, 3, 3], 24, true, false, false, []⟩), (36, ⟨tapi_Tree, 0, [32, 3, 34], 56, false, false, false, []⟩), (38, ⟨(.int .i64), 0, [], 8, false, false, false, []⟩), (49, ⟨tapi_Bill, 0, [3, 3], 16, true, false, false, []⟩), (54, ⟨tapi_Pair, 0, [9, 9, 3], 40, true, false, false, []⟩), (60, ⟨(.pair (.int .u8) (.pair (.int .u8) (.pair (.int .u8) (.pair (.int .u8) (.pair (.int .u8) (.pair (.int .u8) .unit)))))), 0, [5, 5, 5, 5, 5, 5], 6, false, true, false, []⟩), (62, ⟨tapi_Span, 0, [9, 9], 32, true, false, false, []⟩), (64, ⟨tapi_Msg, 0, [3, 9, 9, 62, 9, 9, 3], 112, true, false, false, []⟩), (71, ⟨(.list .str), 9, [], 16, false, false, false, []⟩), (76, ⟨(.list tapi_Span), 62, [], 32, false, false, false, []⟩), (78, ⟨(.list tapi_Pair), 54, [], 40, false, false, false, []⟩), (94, ⟨(.list (.int .i64)), 3, [], 8, false, false, false, []⟩), (95, ⟨(.list tapi_Sum), 161, [], 32, false, false, false, []⟩), (96, ⟨(.list tapi_Msg), 64, [], 112, false, false, false, []⟩), (98, ⟨tapi_Node, 0, [78, 71, 94, 95, 96], 120, false, false, false, []⟩), (100, ⟨tapi_Slot, 0, [4, 4, 3, 98], 136, false, false, false, []⟩), (104, ⟨(.list (.list .str)), 71, [], 24, false, false, false, []⟩), (105, ⟨(.list (.list (.list .str))), 104, [], 24, false, false, false, []⟩), (107, ⟨tref12_built, 0, [32, 3], 32, false, false, false, []⟩), (112, ⟨.opq, 0, [], 8, false, true, false, []⟩), (120, ⟨.opq, 0, [], 8, false, true, false, []⟩), (122, ⟨.opq, 0, [], 8, false, true, false, []⟩), (125, ⟨tcost_bill, 0, [49], 16, true, false, false, []⟩), (130, ⟨tapi_Found, 0, [4, 4, 54, 9, 4, 3], 80, true, false, false, []⟩), (152, ⟨tref11_Added, 0, [32, 3, 38], 40, false, false, false, []⟩), (159, ⟨tapi_Bill, 0, [3, 3], 16, true, false, false, []⟩), (161, ⟨tapi_Sum, 0, [159, 159], 32, true, false, false, []⟩), (166, ⟨(.pair (.int .u8) (.pair (.int .u8) (.pair (.int .u8) .unit))), 0, [5, 5, 5], 3, false, true, false, []⟩), (173, ⟨(.list (.list tapi_Msg)), 96, [], 24, false, false, false, []⟩), (179, ⟨.opq, 0, [], 16, false, false, true, []⟩), (182, ⟨.str, 0, [], 16, false, false, false, []⟩), (185, ⟨.opq, 0, [], 8, false, false, false, []⟩), (192, ⟨.opq, 0, [], 8, false, true, false, []⟩), (193, ⟨.opq, 0, [], 8, false, true, false, []⟩), (195, ⟨.opq, 0, [], 8, false, true, false, []⟩), (196, ⟨(.pair .opq (.pair .opq (.pair .opq (.pair .opq (.pair .opq (.pair .opq (.pair .opq .unit))))))), 0, [195, 195, 195, 195, 195, 195, 195], 56, false, true, false, []⟩), (197, ⟨.opq, 0, [], 8, false, false, false, []⟩), (199, ⟨(.list (.int .u8)), 5, [], 1, false, false, false, []⟩), (203, ⟨.opq, 0, [], 8, false, true, false, []⟩), (211, ⟨.opq, 0, [], 8, false, true, false, []⟩), (217, ⟨tapi_Bill, 0, [3, 3], 16, true, false, false, []⟩), (239, ⟨tapi_Msg, 0, [3, 9, 9, 62, 9, 9, 3], 112, true, false, false, [("downspout/msg.writes", 353)]⟩), (240, ⟨tapi_Msg, 0, [3, 9, 9, 62, 9, 9, 3], 112, true, false, false, [("downspout/msg.writes", 366)]⟩), (241, ⟨tapi_Msg, 0, [3, 9, 9, 62, 9, 9, 3], 112, true, false, false, [("downspout/msg.writes", 377)]⟩), (242, ⟨tapi_Msg, 0, [3, 9, 9, 62, 9, 9, 3], 112, true, false, false, [("downspout/msg.writes", 384)]⟩), (243, ⟨tapi_Msg, 0, [3, 9, 9, 62, 9, 9, 3], 112, true, false, false, [("downspout/msg.writes", 394)]⟩), (244, ⟨tapi_Msg, 0, [3, 9, 9, 62, 9, 9, 3], 112, true, false, false, [("downspout/msg.writes", 400)]⟩), (245, ⟨(.list .str), 182, [], 16, false, false, false, []⟩), (247, ⟨.opq, 0, [], 8, false, true, false, []⟩), (251, ⟨.opq, 0, [], 8, false, true, false, []⟩), (252, ⟨.opq, 0, [], 8, false, true, false, []⟩), (253, ⟨(.int .u64), 0, [], 8, false, false, false, []⟩), (271, ⟨tapi_Place, 0, [9, 3, 3, 9], 48, true, false, false, []⟩)], rawIn [(115, 0), (113, 0), (59, 0), (111, 0)]⟩
noncomputable instance Aenv : Env := ⟨fun Y => bif Nat.beq Y 1007300 then some (rcAt Tryz.f73 0) else none, fun g => bif Nat.beq g 0 then [none, some 403, some 405, some 406, some 407, some 408, some 409] else []⟩
theorem Atab : TabOK Tryz.prog Acx := tab_soundE (by kernel_rfl)
theorem Amixed : Tryz.prog.follows .mixedOrders = true := by kernel_rfl
def AS_ref02_Less : Shape := ⟨[(0, (.dat .str)), (1, (.dat .str))], []⟩
def AZ_ref02_Less : Shape := ⟨[(0, (.dat .bool))], []⟩
def AE_ref02_Less : Ent := ⟨182, AS_ref02_Less, AZ_ref02_Less, ref02_Less⟩
def AF_ref02_Less : Fx := mkFx Acx (lookupG []) (fun k st => .fail) 0
theorem ref02_Less_eq (s : AS_ref02_Less.ty.den) : @Eq (Option AZ_ref02_Less.ty.den) (evFn (AF_ref02_Less) Tryz.f182 AS_ref02_Less AZ_ref02_Less s).val (ref02_Less s) := by kernel_rfl
theorem ref02_Less_hG : GSound Tryz.prog (AF_ref02_Less).Γ := ents_sound trivial
theorem ref02_Less_ok : EntOK Tryz.prog (AE_ref02_Less) :=
  fun_sound (F := (AF_ref02_Less)) Atab (ref02_Less_hG) Amixed (fn := Tryz.f182) (m := []) Tryz.func182 (by kernel_rfl) (by kernel_rfl) (by kernel_rfl) trivial (rfOK_no _ (by kernel_rfl)) (by kernel_rfl) (ref02_Less_eq)
theorem ref02_Less_ox : EntX Tryz.prog (AE_ref02_Less) := (ref02_Less_ok).x (by kernel_rfl)
def AS_ref02_Empty : Shape := ⟨[(0, (.dat tapi_Span))], []⟩
def AZ_ref02_Empty : Shape := ⟨[(0, (.dat .bool))], []⟩
def AE_ref02_Empty : Ent := ⟨135, AS_ref02_Empty, AZ_ref02_Empty, ref02_Empty⟩
def AF_ref02_Empty : Fx := mkFx Acx (lookupG []) (fun k st => .fail) 0
theorem ref02_Empty_eq (s : AS_ref02_Empty.ty.den) : @Eq (Option AZ_ref02_Empty.ty.den) (evFn (AF_ref02_Empty) Tryz.f135 AS_ref02_Empty AZ_ref02_Empty s).val (ref02_Empty s) := by kernel_rfl
theorem ref02_Empty_hG : GSound Tryz.prog (AF_ref02_Empty).Γ := ents_sound trivial
theorem ref02_Empty_ok : EntOK Tryz.prog (AE_ref02_Empty) :=
  fun_sound (F := (AF_ref02_Empty)) Atab (ref02_Empty_hG) Amixed (fn := Tryz.f135) (m := []) Tryz.func135 (by kernel_rfl) (by kernel_rfl) (by kernel_rfl) trivial (rfOK_no _ (by kernel_rfl)) (by kernel_rfl) (ref02_Empty_eq)
theorem ref02_Empty_ox : EntX Tryz.prog (AE_ref02_Empty) := (ref02_Empty_ok).x (by kernel_rfl)
def AS_ref02_None : Shape := ⟨[], []⟩
def AZ_ref02_None : Shape := ⟨[(0, (.dat tapi_Span))], []⟩
def AE_ref02_None : Ent := ⟨183, AS_ref02_None, AZ_ref02_None, ref02_None⟩
def AF_ref02_None : Fx := mkFx Acx (lookupG []) (fun k st => .fail) 0
theorem ref02_None_eq (s : AS_ref02_None.ty.den) : @Eq (Option AZ_ref02_None.ty.den) (evFn (AF_ref02_None) Tryz.f183 AS_ref02_None AZ_ref02_None s).val (ref02_None s) := by kernel_rfl
theorem ref02_None_hG : GSound Tryz.prog (AF_ref02_None).Γ := ents_sound trivial
theorem ref02_None_ok : EntOK Tryz.prog (AE_ref02_None) :=
  fun_sound (F := (AF_ref02_None)) Atab (ref02_None_hG) Amixed (fn := Tryz.f183) (m := []) Tryz.func183 (by kernel_rfl) (by kernel_rfl) (by kernel_rfl) trivial (rfOK_no _ (by kernel_rfl)) (by kernel_rfl) (ref02_None_eq)
theorem ref02_None_ox : EntX Tryz.prog (AE_ref02_None) := (ref02_None_ok).x (by kernel_rfl)
def AS_ref02_Meet : Shape := ⟨[(0, (.dat tapi_Span)), (1, (.dat tapi_Span))], []⟩
def AZ_ref02_Meet : Shape := ⟨[(0, (.dat tapi_Span))], []⟩
def AE_ref02_Meet : Ent := ⟨136, AS_ref02_Meet, AZ_ref02_Meet, ref02_Meet⟩
def AF_ref02_Meet : Fx := mkFx Acx (lookupG [AE_ref02_Less, AE_ref02_Empty, AE_ref02_None]) (fun k st => .fail) 0
theorem ref02_Meet_eq (s : AS_ref02_Meet.ty.den) : @Eq (Option AZ_ref02_Meet.ty.den) (evFn (AF_ref02_Meet) Tryz.f136 AS_ref02_Meet AZ_ref02_Meet s).val (ref02_Meet s) := by kernel_rfl
theorem ref02_Meet_hG : GSound Tryz.prog (AF_ref02_Meet).Γ := ents_sound ⟨(ref02_Less_ox), (ref02_Empty_ox), (ref02_None_ox), trivial⟩
theorem ref02_Meet_ok : EntOK Tryz.prog (AE_ref02_Meet) :=
  fun_sound (F := (AF_ref02_Meet)) Atab (ref02_Meet_hG) Amixed (fn := Tryz.f136) (m := []) Tryz.func136 (by kernel_rfl) (by kernel_rfl) (by kernel_rfl) trivial (rfOK_no _ (by kernel_rfl)) (by kernel_rfl) (ref02_Meet_eq)
theorem ref02_Meet_ox : EntX Tryz.prog (AE_ref02_Meet) := (ref02_Meet_ok).x (by kernel_rfl)
def AL_ref02_Parts_0 : Lp := ⟨⟨[(1, (.dat (.list .str))), (2, (.ptr 0 tapi_Span 0 [])), (5, (.own tapi_Span 1)), (6, (.dat .str)), (7, (.dat (.int .i64)))], [.box 62 tapi_Span (.dat tapi_Span), .arr 62 tapi_Span false]⟩, (.exit 0), ⟨[(2, (.ptr 0 tapi_Span 0 [])), (5, (.own tapi_Span 1)), (6, (.dat .str))], [.box 62 tapi_Span (.dat tapi_Span), .arr 62 tapi_Span false]⟩, (.exit 80000000), ⟨[], []⟩⟩
def AS_ref02_Parts : Shape := ⟨[(0, (.dat tapi_Span)), (1, (.dat (.list .str)))], []⟩
def AZ_ref02_Parts : Shape := ⟨[(0, (.own tapi_Span 0))], [.arr 62 tapi_Span false]⟩
def AE_ref02_Parts : Ent := ⟨134, AS_ref02_Parts, AZ_ref02_Parts, ref02_Parts⟩
def AF_ref02_Parts : Fx := mkFx Acx (lookupG [AE_ref02_Meet]) (fun k st => bif Nat.beq k 0 then AL_ref02_Parts_0.go (ref02_Parts_l0) 0 st else .fail) 0
theorem ref02_Parts_b0_eq (s : AL_ref02_Parts_0.S.ty.den) : @Eq (Option (AL_ref02_Parts_0.S.ty.den ⊕ AL_ref02_Parts_0.Out)) (AL_ref02_Parts_0.body (AF_ref02_Parts) (loopAt (bodyOf Tryz.f134) 0) 0 s).val (ref02_Parts_b0 s) := by kernel_rfl
theorem ref02_Parts_eq (s : AS_ref02_Parts.ty.den) : @Eq (Option AZ_ref02_Parts.ty.den) (evFn (AF_ref02_Parts) Tryz.f134 AS_ref02_Parts AZ_ref02_Parts s).val (ref02_Parts s) := by kernel_rfl
theorem ref02_Parts_hG : GSound Tryz.prog (AF_ref02_Parts).Γ := ents_sound ⟨(ref02_Meet_ox), trivial⟩
theorem ref02_Parts_la0 : LamOK Tryz.prog (AF_ref02_Parts) Tryz.f134.ntmps 0 (loopAt (bodyOf Tryz.f134) 0) :=
  lam_sound Atab (ref02_Parts_hG) Amixed (L := AL_ref02_Parts_0) (f := ref02_Parts_l0) (b := ref02_Parts_b0) (m := []) (fun _ => rfl) (by kernel_rfl) (by kernel_rfl) trivial (by kernel_rfl) (rfOK_no _ (by kernel_rfl)) (ref02_Parts_b0_eq)
theorem ref02_Parts_ok : EntOK Tryz.prog (AE_ref02_Parts) :=
  fun_sound (F := (AF_ref02_Parts)) Atab (ref02_Parts_hG) Amixed (fn := Tryz.f134) (m := [(0, loopAt (bodyOf Tryz.f134) 0)]) Tryz.func134 (by kernel_rfl) (by kernel_rfl) (by kernel_rfl) ⟨ref02_Parts_la0, trivial⟩ (rfOK_no _ (by kernel_rfl)) (by kernel_rfl) (ref02_Parts_eq)
theorem ref02_Parts_ox : EntX Tryz.prog (AE_ref02_Parts) := (ref02_Parts_ok).x (by kernel_rfl)
def AS_ref10_Spans : Shape := ⟨[(0, (.dat tapi_Node)), (1, (.dat tapi_Span))], []⟩
def AZ_ref10_Spans : Shape := ⟨[(0, (.own tapi_Span 0))], [.arr 62 tapi_Span false]⟩
def AE_ref10_Spans : Ent := ⟨89, AS_ref10_Spans, AZ_ref10_Spans, ref10_Spans⟩
def AF_ref10_Spans : Fx := mkFx Acx (lookupG [AE_ref02_Parts]) (fun k st => .fail) 0
theorem ref10_Spans_eq (s : AS_ref10_Spans.ty.den) : @Eq (Option AZ_ref10_Spans.ty.den) (evFn (AF_ref10_Spans) Tryz.f89 AS_ref10_Spans AZ_ref10_Spans s).val (ref10_Spans s) := by kernel_rfl
theorem ref10_Spans_hG : GSound Tryz.prog (AF_ref10_Spans).Γ := ents_sound ⟨(ref02_Parts_ox), trivial⟩
theorem ref10_Spans_ok : EntOK Tryz.prog (AE_ref10_Spans) :=
  fun_sound (F := (AF_ref10_Spans)) Atab (ref10_Spans_hG) Amixed (fn := Tryz.f89) (m := []) Tryz.func89 (by kernel_rfl) (by kernel_rfl) (by kernel_rfl) trivial (rfOK_no _ (by kernel_rfl)) (by kernel_rfl) (ref10_Spans_eq)
theorem ref10_Spans_ox : EntX Tryz.prog (AE_ref10_Spans) := (ref10_Spans_ok).x (by kernel_rfl)
def AS_ref04_Has : Shape := ⟨[(0, (.dat tapi_Span)), (1, (.dat .str))], []⟩
def AZ_ref04_Has : Shape := ⟨[(0, (.dat .bool))], []⟩
def AE_ref04_Has : Ent := ⟨104, AS_ref04_Has, AZ_ref04_Has, ref04_Has⟩
def AF_ref04_Has : Fx := mkFx Acx (lookupG []) (fun k st => .fail) 0
theorem ref04_Has_eq (s : AS_ref04_Has.ty.den) : @Eq (Option AZ_ref04_Has.ty.den) (evFn (AF_ref04_Has) Tryz.f104 AS_ref04_Has AZ_ref04_Has s).val (ref04_Has s) := by kernel_rfl
theorem ref04_Has_hG : GSound Tryz.prog (AF_ref04_Has).Γ := ents_sound trivial
theorem ref04_Has_ok : EntOK Tryz.prog (AE_ref04_Has) :=
  fun_sound (F := (AF_ref04_Has)) Atab (ref04_Has_hG) Amixed (fn := Tryz.f104) (m := []) Tryz.func104 (by kernel_rfl) (by kernel_rfl) (by kernel_rfl) trivial (rfOK_no _ (by kernel_rfl)) (by kernel_rfl) (ref04_Has_eq)
theorem ref04_Has_ox : EntX Tryz.prog (AE_ref04_Has) := (ref04_Has_ok).x (by kernel_rfl)
def AL_ref04_Range_0 : Lp := ⟨⟨[(0, (.dat (.list tapi_Pair))), (3, (.ptr 0 tapi_Span 0 [])), (5, (.own tapi_Pair 1)), (6, (.dat (.int .i64)))], [.box 62 tapi_Span (.dat tapi_Span), .arr 54 tapi_Pair false]⟩, (.exit 0), ⟨[(5, (.own tapi_Pair 0))], [.arr 54 tapi_Pair false]⟩, (.exit 80000000), ⟨[], []⟩⟩
def AS_ref04_Range : Shape := ⟨[(0, (.dat (.list tapi_Pair))), (1, (.dat tapi_Span))], []⟩
def AZ_ref04_Range : Shape := ⟨[(0, (.own tapi_Pair 0))], [.arr 54 tapi_Pair false]⟩
def AE_ref04_Range : Ent := ⟨46, AS_ref04_Range, AZ_ref04_Range, ref04_Range⟩
def AF_ref04_Range : Fx := mkFx Acx (lookupG [AE_ref04_Has]) (fun k st => bif Nat.beq k 0 then AL_ref04_Range_0.go (ref04_Range_l0) 0 st else .fail) 0
theorem ref04_Range_b0_eq (s : AL_ref04_Range_0.S.ty.den) : @Eq (Option (AL_ref04_Range_0.S.ty.den ⊕ AL_ref04_Range_0.Out)) (AL_ref04_Range_0.body (AF_ref04_Range) (loopAt (bodyOf Tryz.f46) 0) 0 s).val (ref04_Range_b0 s) := by kernel_rfl
theorem ref04_Range_eq (s : AS_ref04_Range.ty.den) : @Eq (Option AZ_ref04_Range.ty.den) (evFn (AF_ref04_Range) Tryz.f46 AS_ref04_Range AZ_ref04_Range s).val (ref04_Range s) := by kernel_rfl
theorem ref04_Range_hG : GSound Tryz.prog (AF_ref04_Range).Γ := ents_sound ⟨(ref04_Has_ox), trivial⟩
theorem ref04_Range_la0 : LamOK Tryz.prog (AF_ref04_Range) Tryz.f46.ntmps 0 (loopAt (bodyOf Tryz.f46) 0) :=
  lam_sound Atab (ref04_Range_hG) Amixed (L := AL_ref04_Range_0) (f := ref04_Range_l0) (b := ref04_Range_b0) (m := []) (fun _ => rfl) (by kernel_rfl) (by kernel_rfl) trivial (by kernel_rfl) (rfOK_no _ (by kernel_rfl)) (ref04_Range_b0_eq)
theorem ref04_Range_ok : EntOK Tryz.prog (AE_ref04_Range) :=
  fun_sound (F := (AF_ref04_Range)) Atab (ref04_Range_hG) Amixed (fn := Tryz.f46) (m := [(0, loopAt (bodyOf Tryz.f46) 0)]) Tryz.func46 (by kernel_rfl) (by kernel_rfl) (by kernel_rfl) ⟨ref04_Range_la0, trivial⟩ (rfOK_no _ (by kernel_rfl)) (by kernel_rfl) (ref04_Range_eq)
theorem ref04_Range_ox : EntX Tryz.prog (AE_ref04_Range) := (ref04_Range_ok).x (by kernel_rfl)
def AS_ref11_Used : Shape := ⟨[(0, (.dat tapi_Pool)), (1, (.dat (.int .i64)))], []⟩
def AZ_ref11_Used : Shape := ⟨[(0, (.dat .bool))], []⟩
def AE_ref11_Used : Ent := ⟨111, AS_ref11_Used, AZ_ref11_Used, ref11_Used⟩
def AF_ref11_Used : Fx := mkFx Acx (lookupG []) (fun k st => .fail) 0
theorem ref11_Used_eq (s : AS_ref11_Used.ty.den) : @Eq (Option AZ_ref11_Used.ty.den) (evFn (AF_ref11_Used) Tryz.f111 AS_ref11_Used AZ_ref11_Used s).val (ref11_Used s) := by kernel_rfl
theorem ref11_Used_hG : GSound Tryz.prog (AF_ref11_Used).Γ := ents_sound trivial
theorem ref11_Used_ok : EntOK Tryz.prog (AE_ref11_Used) :=
  fun_sound (F := (AF_ref11_Used)) Atab (ref11_Used_hG) Amixed (fn := Tryz.f111) (m := []) Tryz.func111 (by kernel_rfl) (by kernel_rfl) (by kernel_rfl) trivial (rfOK_no _ (by kernel_rfl)) (by kernel_rfl) (ref11_Used_eq)
theorem ref11_Used_ox : EntX Tryz.prog (AE_ref11_Used) := (ref11_Used_ok).x (by kernel_rfl)
def AS_ref11_Copied : Shape := ⟨[(0, (.dat tapi_Pool))], []⟩
def AZ_ref11_Copied : Shape := ⟨[(0, (.agg [(.own tapi_Slot 0)]))], [.arr 100 tapi_Slot false]⟩
def AE_ref11_Copied : Ent := ⟨154, AS_ref11_Copied, AZ_ref11_Copied, ref11_Copied⟩
def AF_ref11_Copied : Fx := mkFx Acx (lookupG []) (fun k st => .fail) 0
theorem ref11_Copied_eq (s : AS_ref11_Copied.ty.den) : @Eq (Option AZ_ref11_Copied.ty.den) (evFn (AF_ref11_Copied) Tryz.f154 AS_ref11_Copied AZ_ref11_Copied s).val (ref11_Copied s) := by kernel_rfl
theorem ref11_Copied_hG : GSound Tryz.prog (AF_ref11_Copied).Γ := ents_sound trivial
theorem ref11_Copied_ok : EntOK Tryz.prog (AE_ref11_Copied) :=
  fun_sound (F := (AF_ref11_Copied)) Atab (ref11_Copied_hG) Amixed (fn := Tryz.f154) (m := []) Tryz.func154 (by kernel_rfl) (by kernel_rfl) (by kernel_rfl) trivial (rfOK_no _ (by kernel_rfl)) (by kernel_rfl) (ref11_Copied_eq)
theorem ref11_Copied_ox : EntX Tryz.prog (AE_ref11_Copied) := (ref11_Copied_ok).x (by kernel_rfl)
def AL_ref11_Add_0 : Lp := ⟨⟨[(2, (.ptr 0 tapi_Pool 0 [])), (3, (.ptr 1 tapi_Node 0 [])), (4, (.ptr 2 tref11_Added 0 [])), (5, (.dat (.int .i64)))], [.box 32 tapi_Pool (.dat tapi_Pool), .box 98 tapi_Node (.dat tapi_Node), .box 152 tref11_Added (.agg [(.agg [(.dat (.list tapi_Slot))]), (.dat (.int .i64)), (.dat (.int .i64))])]⟩, .ret, ⟨[(4, (.ptr 0 tref11_Added 0 []))], [.box 152 tref11_Added (.agg [(.dat tapi_Pool), (.dat (.int .i64)), (.dat (.int .i64))])]⟩, (.exit 0), ⟨[(2, (.ptr 0 tapi_Pool 0 [])), (3, (.ptr 1 tapi_Node 0 [])), (4, (.ptr 2 tref11_Added 0 []))], [.box 32 tapi_Pool (.dat tapi_Pool), .box 98 tapi_Node (.dat tapi_Node), .box 152 tref11_Added (.agg [(.agg [(.dat (.list tapi_Slot))]), (.dat (.int .i64)), (.dat (.int .i64))])]⟩⟩
def AL_ref11_Add_1 : Lp := ⟨⟨[(2, (.ptr 0 tapi_Pool 0 [])), (3, (.ptr 1 tapi_Node 0 [])), (4, (.ptr 2 tref11_Added 0 [])), (6, (.dat (.int .i64)))], [.box 32 tapi_Pool (.dat tapi_Pool), .box 98 tapi_Node (.dat tapi_Node), .box 152 tref11_Added (.agg [(.agg [(.dat (.list tapi_Slot))]), (.dat (.int .i64)), (.dat (.int .i64))])]⟩, (.exit 2), ⟨[(2, (.ptr 0 tapi_Pool 0 [])), (3, (.ptr 1 tapi_Node 0 [])), (4, (.ptr 2 tref11_Added 0 [])), (6, (.dat (.int .i64)))], [.box 32 tapi_Pool (.dat tapi_Pool), .box 98 tapi_Node (.dat tapi_Node), .box 152 tref11_Added (.agg [(.agg [(.dat (.list tapi_Slot))]), (.dat (.int .i64)), (.dat (.int .i64))])]⟩, (.exit 80000002), ⟨[], []⟩⟩
def AL_ref11_Add_2 : Lp := ⟨⟨[(3, (.ptr 0 tapi_Node 0 [])), (4, (.ptr 1 tref11_Added 0 [])), (6, (.dat (.int .i64))), (7, (.ptr 2 tapi_Pool 0 [])), (8, (.dat (.int .i64)))], [.box 98 tapi_Node (.dat tapi_Node), .box 152 tref11_Added (.agg [(.agg [(.dat (.list tapi_Slot))]), (.dat (.int .i64)), (.dat (.int .i64))]), .box 32 tapi_Pool (.agg [(.own tapi_Slot 3)]), .arr 100 tapi_Slot false]⟩, (.exit 4), ⟨[(4, (.ptr 0 tref11_Added 0 [])), (6, (.dat (.int .i64))), (7, (.ptr 1 tapi_Pool 0 []))], [.box 152 tref11_Added (.agg [(.agg [(.dat (.list tapi_Slot))]), (.dat (.int .i64)), (.dat (.int .i64))]), .box 32 tapi_Pool (.agg [(.own tapi_Slot 2)]), .arr 100 tapi_Slot false]⟩, (.exit 80000004), ⟨[], []⟩⟩
def AS_ref11_Add : Shape := ⟨[(0, (.dat tapi_Pool)), (1, (.dat tapi_Node))], []⟩
def AZ_ref11_Add : Shape := ⟨[(0, (.dat tref11_Added))], []⟩
def AE_ref11_Add : Ent := ⟨97, AS_ref11_Add, AZ_ref11_Add, ref11_Add⟩
def AF_ref11_Add : Fx := mkFx Acx (lookupG [AE_ref11_Used, AE_ref11_Copied]) (fun k st => bif Nat.beq k 0 then AL_ref11_Add_0.go (ref11_Add_l0) 0 st else bif Nat.beq k 2 then AL_ref11_Add_1.go (ref11_Add_l1) 0 st else bif Nat.beq k 4 then AL_ref11_Add_2.go (ref11_Add_l2) 0 st else .fail) 0
theorem ref11_Add_b0_eq (s : AL_ref11_Add_0.S.ty.den) : @Eq (Option (AL_ref11_Add_0.S.ty.den ⊕ AL_ref11_Add_0.Out)) (AL_ref11_Add_0.body (AF_ref11_Add) (loopAt (bodyOf Tryz.f97) 0) 0 s).val (ref11_Add_b0 s) := by kernel_rfl
theorem ref11_Add_b1_eq (s : AL_ref11_Add_1.S.ty.den) : @Eq (Option (AL_ref11_Add_1.S.ty.den ⊕ AL_ref11_Add_1.Out)) (AL_ref11_Add_1.body (AF_ref11_Add) (loopAt (bodyOf Tryz.f97) 1) 2 s).val (ref11_Add_b1 s) := by kernel_rfl
theorem ref11_Add_b2_eq (s : AL_ref11_Add_2.S.ty.den) : @Eq (Option (AL_ref11_Add_2.S.ty.den ⊕ AL_ref11_Add_2.Out)) (AL_ref11_Add_2.body (AF_ref11_Add) (loopAt (bodyOf Tryz.f97) 2) 4 s).val (ref11_Add_b2 s) := by kernel_rfl
theorem ref11_Add_eq (s : AS_ref11_Add.ty.den) : @Eq (Option AZ_ref11_Add.ty.den) (evFn (AF_ref11_Add) Tryz.f97 AS_ref11_Add AZ_ref11_Add s).val (ref11_Add s) := by kernel_rfl
theorem ref11_Add_hG : GSound Tryz.prog (AF_ref11_Add).Γ := ents_sound ⟨(ref11_Used_ox), (ref11_Copied_ox), trivial⟩
theorem ref11_Add_la0 : LamOK Tryz.prog (AF_ref11_Add) Tryz.f97.ntmps 0 (loopAt (bodyOf Tryz.f97) 0) :=
  lam_sound Atab (ref11_Add_hG) Amixed (L := AL_ref11_Add_0) (f := ref11_Add_l0) (b := ref11_Add_b0) (m := []) (fun _ => rfl) (by kernel_rfl) (by kernel_rfl) trivial (by kernel_rfl) (rfOK_no _ (by kernel_rfl)) (ref11_Add_b0_eq)
theorem ref11_Add_la1 : LamOK Tryz.prog (AF_ref11_Add) Tryz.f97.ntmps 2 (loopAt (bodyOf Tryz.f97) 1) :=
  lam_sound Atab (ref11_Add_hG) Amixed (L := AL_ref11_Add_1) (f := ref11_Add_l1) (b := ref11_Add_b1) (m := []) (fun _ => rfl) (by kernel_rfl) (by kernel_rfl) trivial (by kernel_rfl) (rfOK_no _ (by kernel_rfl)) (ref11_Add_b1_eq)
theorem ref11_Add_la2 : LamOK Tryz.prog (AF_ref11_Add) Tryz.f97.ntmps 4 (loopAt (bodyOf Tryz.f97) 2) :=
  lam_sound Atab (ref11_Add_hG) Amixed (L := AL_ref11_Add_2) (f := ref11_Add_l2) (b := ref11_Add_b2) (m := []) (fun _ => rfl) (by kernel_rfl) (by kernel_rfl) trivial (by kernel_rfl) (rfOK_no _ (by kernel_rfl)) (ref11_Add_b2_eq)
theorem ref11_Add_ok : EntOK Tryz.prog (AE_ref11_Add) :=
  fun_sound (F := (AF_ref11_Add)) Atab (ref11_Add_hG) Amixed (fn := Tryz.f97) (m := [(0, loopAt (bodyOf Tryz.f97) 0), (2, loopAt (bodyOf Tryz.f97) 1), (4, loopAt (bodyOf Tryz.f97) 2)]) Tryz.func97 (by kernel_rfl) (by kernel_rfl) (by kernel_rfl) ⟨ref11_Add_la0, ref11_Add_la1, ref11_Add_la2, trivial⟩ (rfOK_no _ (by kernel_rfl)) (by kernel_rfl) (ref11_Add_eq)
theorem ref11_Add_ox : EntX Tryz.prog (AE_ref11_Add) := (ref11_Add_ok).x (by kernel_rfl)
def AS_ref10_Plus : Shape := ⟨[(0, (.dat tapi_Sum)), (1, (.dat tapi_Sum))], []⟩
def AZ_ref10_Plus : Shape := ⟨[(0, (.dat tapi_Sum))], []⟩
def AE_ref10_Plus : Ent := ⟨161, AS_ref10_Plus, AZ_ref10_Plus, ref10_Plus⟩
def AF_ref10_Plus : Fx := mkFx Acx (lookupG []) (fun k st => .fail) 0
theorem ref10_Plus_eq (s : AS_ref10_Plus.ty.den) : @Eq (Option AZ_ref10_Plus.ty.den) (evFn (AF_ref10_Plus) Tryz.f161 AS_ref10_Plus AZ_ref10_Plus s).val (ref10_Plus s) := by kernel_rfl
theorem ref10_Plus_hG : GSound Tryz.prog (AF_ref10_Plus).Γ := ents_sound trivial
theorem ref10_Plus_ok : EntOK Tryz.prog (AE_ref10_Plus) :=
  fun_sound (F := (AF_ref10_Plus)) Atab (ref10_Plus_hG) Amixed (fn := Tryz.f161) (m := []) Tryz.func161 (by kernel_rfl) (by kernel_rfl) (by kernel_rfl) trivial (rfOK_no _ (by kernel_rfl)) (by kernel_rfl) (ref10_Plus_eq)
theorem ref10_Plus_ox : EntX Tryz.prog (AE_ref10_Plus) := (ref10_Plus_ok).x (by kernel_rfl)
def AS_ref01_guess : Shape := ⟨[(0, (.dat .str)), (1, (.dat (.int .i64)))], []⟩
def AZ_ref01_guess : Shape := ⟨[(0, (.dat tapi_Place))], []⟩
def AE_ref01_guess : Ent := ⟨273, AS_ref01_guess, AZ_ref01_guess, ref01_guess⟩
def AF_ref01_guess : Fx := mkFx Acx (lookupG []) (fun k st => .fail) 0
theorem ref01_guess_eq (s : AS_ref01_guess.ty.den) : @Eq (Option AZ_ref01_guess.ty.den) (evFn (AF_ref01_guess) Tryz.f273 AS_ref01_guess AZ_ref01_guess s).val (ref01_guess s) := by kernel_rfl
theorem ref01_guess_hG : GSound Tryz.prog (AF_ref01_guess).Γ := ents_sound trivial
theorem ref01_guess_ok : EntOK Tryz.prog (AE_ref01_guess) :=
  fun_sound (F := (AF_ref01_guess)) Atab (ref01_guess_hG) Amixed (fn := Tryz.f273) (m := []) Tryz.func273 (by kernel_rfl) (by kernel_rfl) (by kernel_rfl) trivial (rfOK_no _ (by kernel_rfl)) (by kernel_rfl) (ref01_guess_eq)
theorem ref01_guess_ox : EntX Tryz.prog (AE_ref01_guess) := (ref01_guess_ok).x (by kernel_rfl)
def AL_ref01_Names_0 : Lp := ⟨⟨[(0, (.dat .str)), (4, (.own .str 0)), (5, (.dat .str)), (6, (.dat (.int .i64)))], [.arr 9 .str false]⟩, (.exit 0), ⟨[(4, (.own .str 0)), (5, (.dat .str))], [.arr 9 .str false]⟩, (.exit 80000000), ⟨[], []⟩⟩
def AS_ref01_Names : Shape := ⟨[(0, (.dat .str))], []⟩
def AZ_ref01_Names : Shape := ⟨[(0, (.own .str 0)), (1, (.dat .bool))], [.arr 9 .str false]⟩
def AE_ref01_Names : Ent := ⟨275, AS_ref01_Names, AZ_ref01_Names, ref01_Names⟩
def AF_ref01_Names : Fx := mkFx Acx (lookupG []) (fun k st => bif Nat.beq k 0 then AL_ref01_Names_0.go (ref01_Names_l0) 0 st else .fail) 0
theorem ref01_Names_b0_eq (s : AL_ref01_Names_0.S.ty.den) : @Eq (Option (AL_ref01_Names_0.S.ty.den ⊕ AL_ref01_Names_0.Out)) (AL_ref01_Names_0.body (AF_ref01_Names) (loopAt (bodyOf Tryz.f275) 0) 0 s).val (ref01_Names_b0 s) := by kernel_rfl
theorem ref01_Names_eq (s : AS_ref01_Names.ty.den) : @Eq (Option AZ_ref01_Names.ty.den) (evFn (AF_ref01_Names) Tryz.f275 AS_ref01_Names AZ_ref01_Names s).val (ref01_Names s) := by kernel_rfl
theorem ref01_Names_hG : GSound Tryz.prog (AF_ref01_Names).Γ := ents_sound trivial
theorem ref01_Names_la0 : LamOK Tryz.prog (AF_ref01_Names) Tryz.f275.ntmps 0 (loopAt (bodyOf Tryz.f275) 0) :=
  lam_sound Atab (ref01_Names_hG) Amixed (L := AL_ref01_Names_0) (f := ref01_Names_l0) (b := ref01_Names_b0) (m := []) (fun _ => rfl) (by kernel_rfl) (by kernel_rfl) trivial (by kernel_rfl) (rfOK_no _ (by kernel_rfl)) (ref01_Names_b0_eq)
theorem ref01_Names_ok : EntOK Tryz.prog (AE_ref01_Names) :=
  fun_sound (F := (AF_ref01_Names)) Atab (ref01_Names_hG) Amixed (fn := Tryz.f275) (m := [(0, loopAt (bodyOf Tryz.f275) 0)]) Tryz.func275 (by kernel_rfl) (by kernel_rfl) (by kernel_rfl) ⟨ref01_Names_la0, trivial⟩ (rfOK_no _ (by kernel_rfl)) (by kernel_rfl) (ref01_Names_eq)
theorem ref01_Names_ox : EntX Tryz.prog (AE_ref01_Names) := (ref01_Names_ok).x (by kernel_rfl)
def AL_ref01_Name_0 : Lp := ⟨⟨[(0, (.dat .str)), (3, (.dat (.int .i64)))], []⟩, .ret, ⟨[(2, (.dat .bool))], []⟩, (.exit 0), ⟨[], []⟩⟩
def AS_ref01_Name : Shape := ⟨[(0, (.dat .str))], []⟩
def AZ_ref01_Name : Shape := ⟨[(0, (.dat .bool))], []⟩
def AE_ref01_Name : Ent := ⟨276, AS_ref01_Name, AZ_ref01_Name, ref01_Name⟩
def AF_ref01_Name : Fx := mkFx Acx (lookupG []) (fun k st => bif Nat.beq k 0 then AL_ref01_Name_0.go (ref01_Name_l0) 0 st else .fail) 0
theorem ref01_Name_b0_eq (s : AL_ref01_Name_0.S.ty.den) : @Eq (Option (AL_ref01_Name_0.S.ty.den ⊕ AL_ref01_Name_0.Out)) (AL_ref01_Name_0.body (AF_ref01_Name) (loopAt (bodyOf Tryz.f276) 0) 0 s).val (ref01_Name_b0 s) := by kernel_rfl
theorem ref01_Name_eq (s : AS_ref01_Name.ty.den) : @Eq (Option AZ_ref01_Name.ty.den) (evFn (AF_ref01_Name) Tryz.f276 AS_ref01_Name AZ_ref01_Name s).val (ref01_Name s) := by kernel_rfl
theorem ref01_Name_hG : GSound Tryz.prog (AF_ref01_Name).Γ := ents_sound trivial
theorem ref01_Name_la0 : LamOK Tryz.prog (AF_ref01_Name) Tryz.f276.ntmps 0 (loopAt (bodyOf Tryz.f276) 0) :=
  lam_sound Atab (ref01_Name_hG) Amixed (L := AL_ref01_Name_0) (f := ref01_Name_l0) (b := ref01_Name_b0) (m := []) (fun _ => rfl) (by kernel_rfl) (by kernel_rfl) trivial (by kernel_rfl) (rfOK_no _ (by kernel_rfl)) (ref01_Name_b0_eq)
theorem ref01_Name_ok : EntOK Tryz.prog (AE_ref01_Name) :=
  fun_sound (F := (AF_ref01_Name)) Atab (ref01_Name_hG) Amixed (fn := Tryz.f276) (m := [(0, loopAt (bodyOf Tryz.f276) 0)]) Tryz.func276 (by kernel_rfl) (by kernel_rfl) (by kernel_rfl) ⟨ref01_Name_la0, trivial⟩ (rfOK_no _ (by kernel_rfl)) (by kernel_rfl) (ref01_Name_eq)
theorem ref01_Name_ox : EntX Tryz.prog (AE_ref01_Name) := (ref01_Name_ok).x (by kernel_rfl)
def AL_ref01_Valid_0 : Lp := ⟨⟨[(3, (.own .str 0)), (4, (.dat .bool)), (5, (.dat (.int .i64)))], [.arr 9 .str false]⟩, .ret, ⟨[(2, (.dat .bool))], []⟩, (.exit 0), ⟨[(4, (.dat .bool))], []⟩⟩
def AS_ref01_Valid : Shape := ⟨[(0, (.dat .str))], []⟩
def AZ_ref01_Valid : Shape := ⟨[(0, (.dat .bool))], []⟩
def AE_ref01_Valid : Ent := ⟨251, AS_ref01_Valid, AZ_ref01_Valid, ref01_Valid⟩
def AF_ref01_Valid : Fx := mkFx Acx (lookupG [AE_ref01_Names, AE_ref01_Name]) (fun k st => bif Nat.beq k 0 then AL_ref01_Valid_0.go (ref01_Valid_l0) 0 st else .fail) 0
theorem ref01_Valid_b0_eq (s : AL_ref01_Valid_0.S.ty.den) : @Eq (Option (AL_ref01_Valid_0.S.ty.den ⊕ AL_ref01_Valid_0.Out)) (AL_ref01_Valid_0.body (AF_ref01_Valid) (loopAt (bodyOf Tryz.f251) 0) 0 s).val (ref01_Valid_b0 s) := by kernel_rfl
theorem ref01_Valid_eq (s : AS_ref01_Valid.ty.den) : @Eq (Option AZ_ref01_Valid.ty.den) (evFn (AF_ref01_Valid) Tryz.f251 AS_ref01_Valid AZ_ref01_Valid s).val (ref01_Valid s) := by kernel_rfl
theorem ref01_Valid_hG : GSound Tryz.prog (AF_ref01_Valid).Γ := ents_sound ⟨(ref01_Names_ox), (ref01_Name_ox), trivial⟩
theorem ref01_Valid_la0 : LamOK Tryz.prog (AF_ref01_Valid) Tryz.f251.ntmps 0 (loopAt (bodyOf Tryz.f251) 0) :=
  lam_sound Atab (ref01_Valid_hG) Amixed (L := AL_ref01_Valid_0) (f := ref01_Valid_l0) (b := ref01_Valid_b0) (m := []) (fun _ => rfl) (by kernel_rfl) (by kernel_rfl) trivial (by kernel_rfl) (rfOK_no _ (by kernel_rfl)) (ref01_Valid_b0_eq)
theorem ref01_Valid_ok : EntOK Tryz.prog (AE_ref01_Valid) :=
  fun_sound (F := (AF_ref01_Valid)) Atab (ref01_Valid_hG) Amixed (fn := Tryz.f251) (m := [(0, loopAt (bodyOf Tryz.f251) 0)]) Tryz.func251 (by kernel_rfl) (by kernel_rfl) (by kernel_rfl) ⟨ref01_Valid_la0, trivial⟩ (rfOK_no _ (by kernel_rfl)) (by kernel_rfl) (ref01_Valid_eq)
theorem ref01_Valid_ox : EntX Tryz.prog (AE_ref01_Valid) := (ref01_Valid_ok).x (by kernel_rfl)
def AL_ref01_Body_0 : Lp := ⟨⟨[(0, (.dat (.int .i64))), (3, (.dat .str)), (4, (.dat (.int .i64)))], []⟩, (.exit 0), ⟨[(3, (.dat .str))], []⟩, (.exit 80000000), ⟨[], []⟩⟩
def AS_ref01_Body : Shape := ⟨[(0, (.dat (.int .i64)))], []⟩
def AZ_ref01_Body : Shape := ⟨[(0, (.dat .str))], []⟩
def AE_ref01_Body : Ent := ⟨277, AS_ref01_Body, AZ_ref01_Body, ref01_Body⟩
def AF_ref01_Body : Fx := mkFx Acx (lookupG []) (fun k st => bif Nat.beq k 0 then AL_ref01_Body_0.go (ref01_Body_l0) 0 st else .fail) 0
theorem ref01_Body_b0_eq (s : AL_ref01_Body_0.S.ty.den) : @Eq (Option (AL_ref01_Body_0.S.ty.den ⊕ AL_ref01_Body_0.Out)) (AL_ref01_Body_0.body (AF_ref01_Body) (loopAt (bodyOf Tryz.f277) 0) 0 s).val (ref01_Body_b0 s) := by kernel_rfl
theorem ref01_Body_eq (s : AS_ref01_Body.ty.den) : @Eq (Option AZ_ref01_Body.ty.den) (evFn (AF_ref01_Body) Tryz.f277 AS_ref01_Body AZ_ref01_Body s).val (ref01_Body s) := by kernel_rfl
theorem ref01_Body_hG : GSound Tryz.prog (AF_ref01_Body).Γ := ents_sound trivial
theorem ref01_Body_la0 : LamOK Tryz.prog (AF_ref01_Body) Tryz.f277.ntmps 0 (loopAt (bodyOf Tryz.f277) 0) :=
  lam_sound Atab (ref01_Body_hG) Amixed (L := AL_ref01_Body_0) (f := ref01_Body_l0) (b := ref01_Body_b0) (m := []) (fun _ => rfl) (by kernel_rfl) (by kernel_rfl) trivial (by kernel_rfl) (rfOK_no _ (by kernel_rfl)) (ref01_Body_b0_eq)
theorem ref01_Body_ok : EntOK Tryz.prog (AE_ref01_Body) :=
  fun_sound (F := (AF_ref01_Body)) Atab (ref01_Body_hG) Amixed (fn := Tryz.f277) (m := [(0, loopAt (bodyOf Tryz.f277) 0)]) Tryz.func277 (by kernel_rfl) (by kernel_rfl) (by kernel_rfl) ⟨ref01_Body_la0, trivial⟩ (rfOK_no _ (by kernel_rfl)) (by kernel_rfl) (ref01_Body_eq)
theorem ref01_Body_ox : EntX Tryz.prog (AE_ref01_Body) := (ref01_Body_ok).x (by kernel_rfl)
def AL_ref01_IsBody_0 : Lp := ⟨⟨[(0, (.dat .str)), (3, (.dat (.int .i64))), (4, (.dat (.int .i64)))], []⟩, (.exit 0), ⟨[(0, (.dat .str)), (3, (.dat (.int .i64)))], []⟩, (.exit 80000000), ⟨[], []⟩⟩
def AS_ref01_IsBody : Shape := ⟨[(0, (.dat .str))], []⟩
def AZ_ref01_IsBody : Shape := ⟨[(0, (.dat .bool))], []⟩
def AE_ref01_IsBody : Ent := ⟨252, AS_ref01_IsBody, AZ_ref01_IsBody, ref01_IsBody⟩
def AF_ref01_IsBody : Fx := mkFx Acx (lookupG [AE_ref01_Body]) (fun k st => bif Nat.beq k 0 then AL_ref01_IsBody_0.go (ref01_IsBody_l0) 0 st else .fail) 0
theorem ref01_IsBody_b0_eq (s : AL_ref01_IsBody_0.S.ty.den) : @Eq (Option (AL_ref01_IsBody_0.S.ty.den ⊕ AL_ref01_IsBody_0.Out)) (AL_ref01_IsBody_0.body (AF_ref01_IsBody) (loopAt (bodyOf Tryz.f252) 0) 0 s).val (ref01_IsBody_b0 s) := by kernel_rfl
theorem ref01_IsBody_eq (s : AS_ref01_IsBody.ty.den) : @Eq (Option AZ_ref01_IsBody.ty.den) (evFn (AF_ref01_IsBody) Tryz.f252 AS_ref01_IsBody AZ_ref01_IsBody s).val (ref01_IsBody s) := by kernel_rfl
theorem ref01_IsBody_hG : GSound Tryz.prog (AF_ref01_IsBody).Γ := ents_sound ⟨(ref01_Body_ox), trivial⟩
theorem ref01_IsBody_la0 : LamOK Tryz.prog (AF_ref01_IsBody) Tryz.f252.ntmps 0 (loopAt (bodyOf Tryz.f252) 0) :=
  lam_sound Atab (ref01_IsBody_hG) Amixed (L := AL_ref01_IsBody_0) (f := ref01_IsBody_l0) (b := ref01_IsBody_b0) (m := []) (fun _ => rfl) (by kernel_rfl) (by kernel_rfl) trivial (by kernel_rfl) (rfOK_no _ (by kernel_rfl)) (ref01_IsBody_b0_eq)
theorem ref01_IsBody_ok : EntOK Tryz.prog (AE_ref01_IsBody) :=
  fun_sound (F := (AF_ref01_IsBody)) Atab (ref01_IsBody_hG) Amixed (fn := Tryz.f252) (m := [(0, loopAt (bodyOf Tryz.f252) 0)]) Tryz.func252 (by kernel_rfl) (by kernel_rfl) (by kernel_rfl) ⟨ref01_IsBody_la0, trivial⟩ (rfOK_no _ (by kernel_rfl)) (by kernel_rfl) (ref01_IsBody_eq)
theorem ref01_IsBody_ox : EntX Tryz.prog (AE_ref01_IsBody) := (ref01_IsBody_ok).x (by kernel_rfl)
def AL_ref01_right_c100002 : Lp := ⟨⟨[(1, (.ptr 0 tapi_Place 0 [])), (32, (.dat .bool))], [.box 271 tapi_Place (.dat tapi_Place)]⟩, .nrm, ⟨[(1, (.ptr 0 tapi_Place 0 []))], [.box 271 tapi_Place (.dat tapi_Place)]⟩, .ret, ⟨[(2, (.dat .bool))], []⟩⟩
def AL_ref01_right_c10 : Lp := ⟨⟨[(1, (.ptr 0 tapi_Place 0 []))], [.box 271 tapi_Place (.dat tapi_Place)]⟩, .ret, ⟨[(2, (.dat .bool))], []⟩, (.exit 90000010), ⟨[], []⟩⟩
def AL_ref01_right_c3 : Lp := ⟨⟨[(1, (.ptr 0 tapi_Place 0 []))], [.box 271 tapi_Place (.dat tapi_Place)]⟩, .ret, ⟨[(2, (.dat .bool))], []⟩, (.exit 90000003), ⟨[], []⟩⟩
def AS_ref01_right : Shape := ⟨[(0, (.dat tapi_Place))], []⟩
def AZ_ref01_right : Shape := ⟨[(0, (.dat .bool))], []⟩
def AE_ref01_right : Ent := ⟨288, AS_ref01_right, AZ_ref01_right, ref01_right⟩
def AF_ref01_right : Fx := mkFx Acx (lookupG [AE_ref01_Name, AE_ref01_Valid, AE_ref01_IsBody]) (fun k st => .fail) 0
def AC_ref01_right : Cuts := [(100002, AL_ref01_right_c100002.go (ref01_right_c100002) 0), (10, AL_ref01_right_c10.go (ref01_right_c10) 0), (3, AL_ref01_right_c3.go (ref01_right_c3) 0)]
theorem ref01_right_c100002_eq (s : AL_ref01_right_c100002.S.ty.den) : @Eq (Option AL_ref01_right_c100002.Out) ((evK (AF_ref01_right) (AC_ref01_right) (tailOf (bodyOf Tryz.f288) 100002) 0 (AL_ref01_right_c100002.S.enc s)).bind fun (e, st) => AL_ref01_right_c100002.out (AF_ref01_right).m e st).val (ref01_right_c100002 s) := by kernel_rfl
theorem ref01_right_c10_eq (s : AL_ref01_right_c10.S.ty.den) : @Eq (Option AL_ref01_right_c10.Out) ((evK (AF_ref01_right) (AC_ref01_right) (tailOf (bodyOf Tryz.f288) 10) 0 (AL_ref01_right_c10.S.enc s)).bind fun (e, st) => AL_ref01_right_c10.out (AF_ref01_right).m e st).val (ref01_right_c10 s) := by kernel_rfl
theorem ref01_right_c3_eq (s : AL_ref01_right_c3.S.ty.den) : @Eq (Option AL_ref01_right_c3.Out) ((evK (AF_ref01_right) (AC_ref01_right) (tailOf (bodyOf Tryz.f288) 3) 0 (AL_ref01_right_c3.S.enc s)).bind fun (e, st) => AL_ref01_right_c3.out (AF_ref01_right).m e st).val (ref01_right_c3 s) := by kernel_rfl
theorem ref01_right_eq (s : (AE_ref01_right).S.ty.den) : (evFnK (AF_ref01_right) (AC_ref01_right) Tryz.f288 (AE_ref01_right).S (AE_ref01_right).Z s).val = (AE_ref01_right).g s := by kernel_rfl
theorem ref01_right_hG : GSound Tryz.prog (AF_ref01_right).Γ := ents_sound ⟨(ref01_Name_ox), (ref01_Valid_ox), (ref01_IsBody_ox), trivial⟩
theorem ref01_right_c100002_ok : CutOK Tryz.prog (AF_ref01_right) Tryz.f288.ntmps (AL_ref01_right_c100002.go (ref01_right_c100002) 0) (tailOf (bodyOf Tryz.f288) 100002) :=
  cut_sound Atab (ref01_right_hG) Amixed (L := AL_ref01_right_c100002) (k := 0) (f := ref01_right_c100002) (C := (AC_ref01_right)) (l := []) (m := []) (by kernel_rfl) trivial (by kernel_rfl) trivial (by kernel_rfl) (rfOK_no _ (by kernel_rfl)) (ref01_right_c100002_eq)
theorem ref01_right_c10_ok : CutOK Tryz.prog (AF_ref01_right) Tryz.f288.ntmps (AL_ref01_right_c10.go (ref01_right_c10) 0) (tailOf (bodyOf Tryz.f288) 10) :=
  cut_sound Atab (ref01_right_hG) Amixed (L := AL_ref01_right_c10) (k := 0) (f := ref01_right_c10) (C := (AC_ref01_right)) (l := []) (m := []) (by kernel_rfl) trivial (by kernel_rfl) trivial (by kernel_rfl) (rfOK_no _ (by kernel_rfl)) (ref01_right_c10_eq)
theorem ref01_right_c3_ok : CutOK Tryz.prog (AF_ref01_right) Tryz.f288.ntmps (AL_ref01_right_c3.go (ref01_right_c3) 0) (tailOf (bodyOf Tryz.f288) 3) :=
  cut_sound Atab (ref01_right_hG) Amixed (L := AL_ref01_right_c3) (k := 0) (f := ref01_right_c3) (C := (AC_ref01_right)) (l := []) (m := [(AL_ref01_right_c10.go (ref01_right_c10) 0, tailOf (bodyOf Tryz.f288) 10)]) (by kernel_rfl) trivial (by kernel_rfl) ⟨ref01_right_c10_ok, trivial⟩ (by kernel_rfl) (rfOK_no _ (by kernel_rfl)) (ref01_right_c3_eq)
theorem ref01_right_ok : EntOK Tryz.prog (AE_ref01_right) :=
  fun_soundK (C := (AC_ref01_right)) (F := (AF_ref01_right)) Atab (ref01_right_hG) Amixed (fn := Tryz.f288) (l := []) (m := [(AL_ref01_right_c100002.go (ref01_right_c100002) 0, tailOf (bodyOf Tryz.f288) 100002), (AL_ref01_right_c3.go (ref01_right_c3) 0, tailOf (bodyOf Tryz.f288) 3)]) Tryz.func288 (by kernel_rfl) (by kernel_rfl) (by kernel_rfl) trivial (by kernel_rfl) ⟨ref01_right_c100002_ok, ref01_right_c3_ok, trivial⟩ (rfOK_no _ (by kernel_rfl)) (by kernel_rfl) (ref01_right_eq)
theorem ref01_right_ox : EntX Tryz.prog (AE_ref01_right) := (ref01_right_ok).x (by kernel_rfl)
def AS_ref01_Key : Shape := ⟨[(0, (.dat tapi_Place))], []⟩
def AZ_ref01_Key : Shape := ⟨[(0, (.dat .str)), (1, (.dat (.int .i64)))], []⟩
def AE_ref01_Key : Ent := ⟨274, AS_ref01_Key, AZ_ref01_Key, ref01_Key⟩
def AF_ref01_Key : Fx := mkFx Acx (lookupG [AE_ref01_right]) (fun k st => .fail) 0
theorem ref01_Key_eq (s : AS_ref01_Key.ty.den) : @Eq (Option AZ_ref01_Key.ty.den) (evFn (AF_ref01_Key) Tryz.f274 AS_ref01_Key AZ_ref01_Key s).val (ref01_Key s) := by kernel_rfl
theorem ref01_Key_hG : GSound Tryz.prog (AF_ref01_Key).Γ := ents_sound ⟨(ref01_right_ox), trivial⟩
theorem ref01_Key_ok : EntOK Tryz.prog (AE_ref01_Key) :=
  fun_sound (F := (AF_ref01_Key)) Atab (ref01_Key_hG) Amixed (fn := Tryz.f274) (m := []) Tryz.func274 (by kernel_rfl) (by kernel_rfl) (by kernel_rfl) trivial (rfOK_no _ (by kernel_rfl)) (by kernel_rfl) (ref01_Key_eq)
theorem ref01_Key_ox : EntX Tryz.prog (AE_ref01_Key) := (ref01_Key_ok).x (by kernel_rfl)
def AL_ref01_Place_0 : Lp := ⟨⟨[(0, (.dat .str)), (2, (.ptr 0 tapi_Place 0 [])), (4, (.dat (.int .i64)))], [.box 271 tapi_Place (.agg [(.dat .str), (.dat (.int .i64)), (.dat (.int .i64)), (.dat .str)])]⟩, .ret, ⟨[(2, (.ptr 0 tapi_Place 0 [])), (3, (.dat (.int .i64)))], [.box 271 tapi_Place (.dat tapi_Place)]⟩, (.exit 0), ⟨[(2, (.ptr 0 tapi_Place 0 []))], [.box 271 tapi_Place (.agg [(.dat .str), (.dat (.int .i64)), (.dat (.int .i64)), (.dat .str)])]⟩⟩
def AS_ref01_Place : Shape := ⟨[(0, (.dat .str))], []⟩
def AZ_ref01_Place : Shape := ⟨[(0, (.dat tapi_Place)), (1, (.dat (.int .i64)))], []⟩
def AE_ref01_Place : Ent := ⟨250, AS_ref01_Place, AZ_ref01_Place, ref01_Place⟩
def AF_ref01_Place : Fx := mkFx Acx (lookupG [AE_ref01_guess, AE_ref01_Key]) (fun k st => bif Nat.beq k 0 then AL_ref01_Place_0.go (ref01_Place_l0) 0 st else .fail) 0
theorem ref01_Place_b0_eq (s : AL_ref01_Place_0.S.ty.den) : @Eq (Option (AL_ref01_Place_0.S.ty.den ⊕ AL_ref01_Place_0.Out)) (AL_ref01_Place_0.body (AF_ref01_Place) (loopAt (bodyOf Tryz.f250) 0) 0 s).val (ref01_Place_b0 s) := by kernel_rfl
theorem ref01_Place_eq (s : AS_ref01_Place.ty.den) : @Eq (Option AZ_ref01_Place.ty.den) (evFn (AF_ref01_Place) Tryz.f250 AS_ref01_Place AZ_ref01_Place s).val (ref01_Place s) := by kernel_rfl
theorem ref01_Place_hG : GSound Tryz.prog (AF_ref01_Place).Γ := ents_sound ⟨(ref01_guess_ox), (ref01_Key_ox), trivial⟩
theorem ref01_Place_la0 : LamOK Tryz.prog (AF_ref01_Place) Tryz.f250.ntmps 0 (loopAt (bodyOf Tryz.f250) 0) :=
  lam_sound Atab (ref01_Place_hG) Amixed (L := AL_ref01_Place_0) (f := ref01_Place_l0) (b := ref01_Place_b0) (m := []) (fun _ => rfl) (by kernel_rfl) (by kernel_rfl) trivial (by kernel_rfl) (rfOK_no _ (by kernel_rfl)) (ref01_Place_b0_eq)
theorem ref01_Place_ok : EntOK Tryz.prog (AE_ref01_Place) :=
  fun_sound (F := (AF_ref01_Place)) Atab (ref01_Place_hG) Amixed (fn := Tryz.f250) (m := [(0, loopAt (bodyOf Tryz.f250) 0)]) Tryz.func250 (by kernel_rfl) (by kernel_rfl) (by kernel_rfl) ⟨ref01_Place_la0, trivial⟩ (rfOK_no _ (by kernel_rfl)) (by kernel_rfl) (ref01_Place_eq)
theorem ref01_Place_ox : EntX Tryz.prog (AE_ref01_Place) := (ref01_Place_ok).x (by kernel_rfl)
def AS_ref10_isEntry : Shape := ⟨[(0, (.dat .str))], []⟩
def AZ_ref10_isEntry : Shape := ⟨[(0, (.dat .bool))], []⟩
def AE_ref10_isEntry : Ent := ⟨216, AS_ref10_isEntry, AZ_ref10_isEntry, ref10_isEntry⟩
def AF_ref10_isEntry : Fx := mkFx Acx (lookupG [AE_ref01_Place]) (fun k st => .fail) 0
theorem ref10_isEntry_eq (s : AS_ref10_isEntry.ty.den) : @Eq (Option AZ_ref10_isEntry.ty.den) (evFn (AF_ref10_isEntry) Tryz.f216 AS_ref10_isEntry AZ_ref10_isEntry s).val (ref10_isEntry s) := by kernel_rfl
theorem ref10_isEntry_hG : GSound Tryz.prog (AF_ref10_isEntry).Γ := ents_sound ⟨(ref01_Place_ox), trivial⟩
theorem ref10_isEntry_ok : EntOK Tryz.prog (AE_ref10_isEntry) :=
  fun_sound (F := (AF_ref10_isEntry)) Atab (ref10_isEntry_hG) Amixed (fn := Tryz.f216) (m := []) Tryz.func216 (by kernel_rfl) (by kernel_rfl) (by kernel_rfl) trivial (rfOK_no _ (by kernel_rfl)) (by kernel_rfl) (ref10_isEntry_eq)
theorem ref10_isEntry_ox : EntX Tryz.prog (AE_ref10_isEntry) := (ref10_isEntry_ok).x (by kernel_rfl)
def AS_ref10_higher : Shape := ⟨[(0, (.dat tapi_Bill)), (1, (.dat (.int .i64)))], []⟩
def AZ_ref10_higher : Shape := ⟨[(0, (.dat tapi_Bill))], []⟩
def AE_ref10_higher : Ent := ⟨217, AS_ref10_higher, AZ_ref10_higher, ref10_higher⟩
def AF_ref10_higher : Fx := mkFx Acx (lookupG []) (fun k st => .fail) 0
theorem ref10_higher_eq (s : AS_ref10_higher.ty.den) : @Eq (Option AZ_ref10_higher.ty.den) (evFn (AF_ref10_higher) Tryz.f217 AS_ref10_higher AZ_ref10_higher s).val (ref10_higher s) := by kernel_rfl
theorem ref10_higher_hG : GSound Tryz.prog (AF_ref10_higher).Γ := ents_sound trivial
theorem ref10_higher_ok : EntOK Tryz.prog (AE_ref10_higher) :=
  fun_sound (F := (AF_ref10_higher)) Atab (ref10_higher_hG) Amixed (fn := Tryz.f217) (m := []) Tryz.func217 (by kernel_rfl) (by kernel_rfl) (by kernel_rfl) trivial (rfOK_no _ (by kernel_rfl)) (by kernel_rfl) (ref10_higher_eq)
theorem ref10_higher_ox : EntX Tryz.prog (AE_ref10_higher) := (ref10_higher_ok).x (by kernel_rfl)
def AS_ref10_lower : Shape := ⟨[(0, (.dat tapi_Bill)), (1, (.dat (.int .i64)))], []⟩
def AZ_ref10_lower : Shape := ⟨[(0, (.dat tapi_Bill))], []⟩
def AE_ref10_lower : Ent := ⟨218, AS_ref10_lower, AZ_ref10_lower, ref10_lower⟩
def AF_ref10_lower : Fx := mkFx Acx (lookupG []) (fun k st => .fail) 0
theorem ref10_lower_eq (s : AS_ref10_lower.ty.den) : @Eq (Option AZ_ref10_lower.ty.den) (evFn (AF_ref10_lower) Tryz.f218 AS_ref10_lower AZ_ref10_lower s).val (ref10_lower s) := by kernel_rfl
theorem ref10_lower_hG : GSound Tryz.prog (AF_ref10_lower).Γ := ents_sound trivial
theorem ref10_lower_ok : EntOK Tryz.prog (AE_ref10_lower) :=
  fun_sound (F := (AF_ref10_lower)) Atab (ref10_lower_hG) Amixed (fn := Tryz.f218) (m := []) Tryz.func218 (by kernel_rfl) (by kernel_rfl) (by kernel_rfl) trivial (rfOK_no _ (by kernel_rfl)) (by kernel_rfl) (ref10_lower_eq)
theorem ref10_lower_ox : EntX Tryz.prog (AE_ref10_lower) := (ref10_lower_ok).x (by kernel_rfl)
def AS_ref10_Alike : Shape := ⟨[(0, (.dat .str)), (1, (.dat .str))], []⟩
def AZ_ref10_Alike : Shape := ⟨[(0, (.dat .bool))], []⟩
def AE_ref10_Alike : Ent := ⟨219, AS_ref10_Alike, AZ_ref10_Alike, ref10_Alike⟩
def AF_ref10_Alike : Fx := mkFx Acx (lookupG [AE_ref01_Valid, AE_ref01_IsBody]) (fun k st => .fail) 0
theorem ref10_Alike_eq (s : AS_ref10_Alike.ty.den) : @Eq (Option AZ_ref10_Alike.ty.den) (evFn (AF_ref10_Alike) Tryz.f219 AS_ref10_Alike AZ_ref10_Alike s).val (ref10_Alike s) := by kernel_rfl
theorem ref10_Alike_hG : GSound Tryz.prog (AF_ref10_Alike).Γ := ents_sound ⟨(ref01_Valid_ox), (ref01_IsBody_ox), trivial⟩
theorem ref10_Alike_ok : EntOK Tryz.prog (AE_ref10_Alike) :=
  fun_sound (F := (AF_ref10_Alike)) Atab (ref10_Alike_hG) Amixed (fn := Tryz.f219) (m := []) Tryz.func219 (by kernel_rfl) (by kernel_rfl) (by kernel_rfl) trivial (rfOK_no _ (by kernel_rfl)) (by kernel_rfl) (ref10_Alike_eq)
theorem ref10_Alike_ox : EntX Tryz.prog (AE_ref10_Alike) := (ref10_Alike_ok).x (by kernel_rfl)
def AS_ref10_change : Shape := ⟨[(0, (.dat tapi_Sum)), (1, (.dat tapi_Msg))], []⟩
def AZ_ref10_change : Shape := ⟨[(0, (.dat tapi_Sum))], []⟩
def AE_ref10_change : Ent := ⟨162, AS_ref10_change, AZ_ref10_change, ref10_change⟩
def AF_ref10_change : Fx := mkFx Acx (lookupG [AE_ref10_isEntry, AE_ref10_higher, AE_ref10_lower, AE_ref10_Alike]) (fun k st => .fail) 0
theorem ref10_change_eq (s : AS_ref10_change.ty.den) : @Eq (Option AZ_ref10_change.ty.den) (evFn (AF_ref10_change) Tryz.f162 AS_ref10_change AZ_ref10_change s).val (ref10_change s) := by kernel_rfl
theorem ref10_change_hG : GSound Tryz.prog (AF_ref10_change).Γ := ents_sound ⟨(ref10_isEntry_ox), (ref10_higher_ox), (ref10_lower_ox), (ref10_Alike_ox), trivial⟩
theorem ref10_change_ok : EntOK Tryz.prog (AE_ref10_change) :=
  fun_sound (F := (AF_ref10_change)) Atab (ref10_change_hG) Amixed (fn := Tryz.f162) (m := []) Tryz.func162 (by kernel_rfl) (by kernel_rfl) (by kernel_rfl) trivial (rfOK_no _ (by kernel_rfl)) (by kernel_rfl) (ref10_change_eq)
theorem ref10_change_ox : EntX Tryz.prog (AE_ref10_change) := (ref10_change_ok).x (by kernel_rfl)
def AS_ref03_Charge : Shape := ⟨[(0, (.dat tapi_Pair))], []⟩
def AZ_ref03_Charge : Shape := ⟨[(0, (.dat tapi_Bill))], []⟩
def AE_ref03_Charge : Ent := ⟨215, AS_ref03_Charge, AZ_ref03_Charge, ref03_Charge⟩
def AF_ref03_Charge : Fx := mkFx Acx (lookupG [AE_ref01_Place]) (fun k st => .fail) 0
theorem ref03_Charge_eq (s : AS_ref03_Charge.ty.den) : @Eq (Option AZ_ref03_Charge.ty.den) (evFn (AF_ref03_Charge) Tryz.f215 AS_ref03_Charge AZ_ref03_Charge s).val (ref03_Charge s) := by kernel_rfl
theorem ref03_Charge_hG : GSound Tryz.prog (AF_ref03_Charge).Γ := ents_sound ⟨(ref01_Place_ox), trivial⟩
theorem ref03_Charge_ok : EntOK Tryz.prog (AE_ref03_Charge) :=
  fun_sound (F := (AF_ref03_Charge)) Atab (ref03_Charge_hG) Amixed (fn := Tryz.f215) (m := []) Tryz.func215 (by kernel_rfl) (by kernel_rfl) (by kernel_rfl) trivial (rfOK_no _ (by kernel_rfl)) (by kernel_rfl) (ref03_Charge_eq)
theorem ref03_Charge_ox : EntX Tryz.prog (AE_ref03_Charge) := (ref03_Charge_ok).x (by kernel_rfl)
def AL_ref03_Total_0 : Lp := ⟨⟨[(0, (.dat (.list tapi_Pair))), (2, (.ptr 0 tapi_Bill 0 [])), (3, (.ptr 1 tapi_Bill 0 [])), (4, (.dat (.int .i64)))], [.box 217 tapi_Bill (.agg [(.dat (.int .i64)), (.dat (.int .i64))]), .box 217 tapi_Bill (.agg [(.dat (.int .i64)), (.dat (.int .i64))])]⟩, (.exit 0), ⟨[(2, (.ptr 0 tapi_Bill 0 [])), (3, (.ptr 1 tapi_Bill 0 []))], [.box 217 tapi_Bill (.agg [(.dat (.int .i64)), (.dat (.int .i64))]), .box 217 tapi_Bill (.agg [(.dat (.int .i64)), (.dat (.int .i64))])]⟩, (.exit 80000000), ⟨[], []⟩⟩
def AS_ref03_Total : Shape := ⟨[(0, (.dat (.list tapi_Pair)))], []⟩
def AZ_ref03_Total : Shape := ⟨[(0, (.dat tapi_Bill))], []⟩
def AE_ref03_Total : Ent := ⟨160, AS_ref03_Total, AZ_ref03_Total, ref03_Total⟩
def AF_ref03_Total : Fx := mkFx Acx (lookupG [AE_ref03_Charge]) (fun k st => bif Nat.beq k 0 then AL_ref03_Total_0.go (ref03_Total_l0) 0 st else .fail) 0
theorem ref03_Total_b0_eq (s : AL_ref03_Total_0.S.ty.den) : @Eq (Option (AL_ref03_Total_0.S.ty.den ⊕ AL_ref03_Total_0.Out)) (AL_ref03_Total_0.body (AF_ref03_Total) (loopAt (bodyOf Tryz.f160) 0) 0 s).val (ref03_Total_b0 s) := by kernel_rfl
theorem ref03_Total_eq (s : AS_ref03_Total.ty.den) : @Eq (Option AZ_ref03_Total.ty.den) (evFn (AF_ref03_Total) Tryz.f160 AS_ref03_Total AZ_ref03_Total s).val (ref03_Total s) := by kernel_rfl
theorem ref03_Total_hG : GSound Tryz.prog (AF_ref03_Total).Γ := ents_sound ⟨(ref03_Charge_ox), trivial⟩
theorem ref03_Total_la0 : LamOK Tryz.prog (AF_ref03_Total) Tryz.f160.ntmps 0 (loopAt (bodyOf Tryz.f160) 0) :=
  lam_sound Atab (ref03_Total_hG) Amixed (L := AL_ref03_Total_0) (f := ref03_Total_l0) (b := ref03_Total_b0) (m := []) (fun _ => rfl) (by kernel_rfl) (by kernel_rfl) trivial (by kernel_rfl) (rfOK_no _ (by kernel_rfl)) (ref03_Total_b0_eq)
theorem ref03_Total_ok : EntOK Tryz.prog (AE_ref03_Total) :=
  fun_sound (F := (AF_ref03_Total)) Atab (ref03_Total_hG) Amixed (fn := Tryz.f160) (m := [(0, loopAt (bodyOf Tryz.f160) 0)]) Tryz.func160 (by kernel_rfl) (by kernel_rfl) (by kernel_rfl) ⟨ref03_Total_la0, trivial⟩ (rfOK_no _ (by kernel_rfl)) (by kernel_rfl) (ref03_Total_eq)
theorem ref03_Total_ox : EntX Tryz.prog (AE_ref03_Total) := (ref03_Total_ok).x (by kernel_rfl)
def AS_ref10_Exact : Shape := ⟨[(0, (.dat tapi_Bill))], []⟩
def AZ_ref10_Exact : Shape := ⟨[(0, (.dat tapi_Sum))], []⟩
def AE_ref10_Exact : Ent := ⟨159, AS_ref10_Exact, AZ_ref10_Exact, ref10_Exact⟩
def AF_ref10_Exact : Fx := mkFx Acx (lookupG []) (fun k st => .fail) 0
theorem ref10_Exact_eq (s : AS_ref10_Exact.ty.den) : @Eq (Option AZ_ref10_Exact.ty.den) (evFn (AF_ref10_Exact) Tryz.f159 AS_ref10_Exact AZ_ref10_Exact s).val (ref10_Exact s) := by kernel_rfl
theorem ref10_Exact_hG : GSound Tryz.prog (AF_ref10_Exact).Γ := ents_sound trivial
theorem ref10_Exact_ok : EntOK Tryz.prog (AE_ref10_Exact) :=
  fun_sound (F := (AF_ref10_Exact)) Atab (ref10_Exact_hG) Amixed (fn := Tryz.f159) (m := []) Tryz.func159 (by kernel_rfl) (by kernel_rfl) (by kernel_rfl) trivial (rfOK_no _ (by kernel_rfl)) (by kernel_rfl) (ref10_Exact_eq)
theorem ref10_Exact_ox : EntX Tryz.prog (AE_ref10_Exact) := (ref10_Exact_ok).x (by kernel_rfl)
def AL_ref10_Sum_0 : Lp := ⟨⟨[(1, (.ptr 0 tapi_Node 0 [])), (2, (.ptr 1 tapi_Sum 0 [])), (3, (.ptr 2 tapi_Sum 0 [])), (4, (.dat (.int .i64)))], [.box 98 tapi_Node (.dat tapi_Node), .box 161 tapi_Sum (.agg [(.agg [(.dat (.int .i64)), (.dat (.int .i64))]), (.agg [(.dat (.int .i64)), (.dat (.int .i64))])]), .box 161 tapi_Sum (.dat tapi_Sum)]⟩, (.exit 0), ⟨[(1, (.ptr 0 tapi_Node 0 [])), (2, (.ptr 1 tapi_Sum 0 [])), (3, (.ptr 2 tapi_Sum 0 []))], [.box 98 tapi_Node (.dat tapi_Node), .box 161 tapi_Sum (.agg [(.agg [(.dat (.int .i64)), (.dat (.int .i64))]), (.agg [(.dat (.int .i64)), (.dat (.int .i64))])]), .box 161 tapi_Sum (.dat tapi_Sum)]⟩, (.exit 80000000), ⟨[], []⟩⟩
def AL_ref10_Sum_1 : Lp := ⟨⟨[(1, (.ptr 0 tapi_Node 0 [])), (2, (.ptr 1 tapi_Sum 0 [])), (3, (.ptr 2 tapi_Sum 0 [])), (5, (.dat (.int .i64)))], [.box 98 tapi_Node (.dat tapi_Node), .box 161 tapi_Sum (.agg [(.agg [(.dat (.int .i64)), (.dat (.int .i64))]), (.agg [(.dat (.int .i64)), (.dat (.int .i64))])]), .box 161 tapi_Sum (.dat tapi_Sum)]⟩, (.exit 2), ⟨[(2, (.ptr 0 tapi_Sum 0 [])), (3, (.ptr 1 tapi_Sum 0 []))], [.box 161 tapi_Sum (.agg [(.agg [(.dat (.int .i64)), (.dat (.int .i64))]), (.agg [(.dat (.int .i64)), (.dat (.int .i64))])]), .box 161 tapi_Sum (.dat tapi_Sum)]⟩, (.exit 80000002), ⟨[], []⟩⟩
def AS_ref10_Sum : Shape := ⟨[(0, (.dat tapi_Node))], []⟩
def AZ_ref10_Sum : Shape := ⟨[(0, (.dat tapi_Sum))], []⟩
def AE_ref10_Sum : Ent := ⟨105, AS_ref10_Sum, AZ_ref10_Sum, ref10_Sum⟩
def AF_ref10_Sum : Fx := mkFx Acx (lookupG [AE_ref10_Plus, AE_ref10_change, AE_ref03_Total, AE_ref10_Exact]) (fun k st => bif Nat.beq k 0 then AL_ref10_Sum_0.go (ref10_Sum_l0) 0 st else bif Nat.beq k 2 then AL_ref10_Sum_1.go (ref10_Sum_l1) 0 st else .fail) 0
theorem ref10_Sum_b0_eq (s : AL_ref10_Sum_0.S.ty.den) : @Eq (Option (AL_ref10_Sum_0.S.ty.den ⊕ AL_ref10_Sum_0.Out)) (AL_ref10_Sum_0.body (AF_ref10_Sum) (loopAt (bodyOf Tryz.f105) 0) 0 s).val (ref10_Sum_b0 s) := by kernel_rfl
theorem ref10_Sum_b1_eq (s : AL_ref10_Sum_1.S.ty.den) : @Eq (Option (AL_ref10_Sum_1.S.ty.den ⊕ AL_ref10_Sum_1.Out)) (AL_ref10_Sum_1.body (AF_ref10_Sum) (loopAt (bodyOf Tryz.f105) 1) 2 s).val (ref10_Sum_b1 s) := by kernel_rfl
theorem ref10_Sum_eq (s : AS_ref10_Sum.ty.den) : @Eq (Option AZ_ref10_Sum.ty.den) (evFn (AF_ref10_Sum) Tryz.f105 AS_ref10_Sum AZ_ref10_Sum s).val (ref10_Sum s) := by kernel_rfl
theorem ref10_Sum_hG : GSound Tryz.prog (AF_ref10_Sum).Γ := ents_sound ⟨(ref10_Plus_ox), (ref10_change_ox), (ref03_Total_ox), (ref10_Exact_ox), trivial⟩
theorem ref10_Sum_la0 : LamOK Tryz.prog (AF_ref10_Sum) Tryz.f105.ntmps 0 (loopAt (bodyOf Tryz.f105) 0) :=
  lam_sound Atab (ref10_Sum_hG) Amixed (L := AL_ref10_Sum_0) (f := ref10_Sum_l0) (b := ref10_Sum_b0) (m := []) (fun _ => rfl) (by kernel_rfl) (by kernel_rfl) trivial (by kernel_rfl) (rfOK_no _ (by kernel_rfl)) (ref10_Sum_b0_eq)
theorem ref10_Sum_la1 : LamOK Tryz.prog (AF_ref10_Sum) Tryz.f105.ntmps 2 (loopAt (bodyOf Tryz.f105) 1) :=
  lam_sound Atab (ref10_Sum_hG) Amixed (L := AL_ref10_Sum_1) (f := ref10_Sum_l1) (b := ref10_Sum_b1) (m := []) (fun _ => rfl) (by kernel_rfl) (by kernel_rfl) trivial (by kernel_rfl) (rfOK_no _ (by kernel_rfl)) (ref10_Sum_b1_eq)
theorem ref10_Sum_ok : EntOK Tryz.prog (AE_ref10_Sum) :=
  fun_sound (F := (AF_ref10_Sum)) Atab (ref10_Sum_hG) Amixed (fn := Tryz.f105) (m := [(0, loopAt (bodyOf Tryz.f105) 0), (2, loopAt (bodyOf Tryz.f105) 1)]) Tryz.func105 (by kernel_rfl) (by kernel_rfl) (by kernel_rfl) ⟨ref10_Sum_la0, ref10_Sum_la1, trivial⟩ (rfOK_no _ (by kernel_rfl)) (by kernel_rfl) (ref10_Sum_eq)
theorem ref10_Sum_ox : EntX Tryz.prog (AE_ref10_Sum) := (ref10_Sum_ok).x (by kernel_rfl)
def AS_ref11_Used_v2 : Shape := ⟨[(0, (.agg [(.own tapi_Slot 0)])), (1, (.dat (.int .i64)))], [.arr 100 tapi_Slot false]⟩
def AZ_ref11_Used_v2 : Shape := ⟨[(0, (.dat .bool))], [.arr 100 tapi_Slot false]⟩
def AE_ref11_Used_v2 : Ent := ⟨111, AS_ref11_Used_v2, AZ_ref11_Used_v2, ref11_Used_v2⟩
def AF_ref11_Used_v2 : Fx := mkFx Acx (lookupG []) (fun k st => .fail) 1
theorem ref11_Used_v2_eq (s : AS_ref11_Used_v2.ty.den) : @Eq (Option AZ_ref11_Used_v2.ty.den) (evFn (AF_ref11_Used_v2) Tryz.f111 AS_ref11_Used_v2 AZ_ref11_Used_v2 s).val (ref11_Used_v2 s) := by kernel_rfl
theorem ref11_Used_v2_hG : GSound Tryz.prog (AF_ref11_Used_v2).Γ := ents_sound trivial
theorem ref11_Used_v2_ok : EntOK Tryz.prog (AE_ref11_Used_v2) :=
  fun_sound (F := (AF_ref11_Used_v2)) Atab (ref11_Used_v2_hG) Amixed (fn := Tryz.f111) (m := []) Tryz.func111 (by kernel_rfl) (by kernel_rfl) (by kernel_rfl) trivial (rfOK_no _ (by kernel_rfl)) (by kernel_rfl) (ref11_Used_v2_eq)
theorem ref11_Used_v2_ox : EntX Tryz.prog (AE_ref11_Used_v2) := (ref11_Used_v2_ok).x (by kernel_rfl)
def AL_ref11_Drop_0 : Lp := ⟨⟨[(4, (.ptr 0 tapi_Pool 0 [])), (6, (.ptr 1 tapi_Pool 0 [])), (7, (.dat (.list (.int .i64))))], [.box 32 tapi_Pool (.agg [(.dat (.list tapi_Slot))]), .box 32 tapi_Pool (.agg [(.own tapi_Slot 2)]), .arr 100 tapi_Slot false]⟩, (.exit 0), ⟨[(4, (.ptr 0 tapi_Pool 0 [])), (6, (.ptr 1 tapi_Pool 0 []))], [.box 32 tapi_Pool (.agg [(.dat (.list tapi_Slot))]), .box 32 tapi_Pool (.agg [(.own tapi_Slot 2)]), .arr 100 tapi_Slot false]⟩, (.exit 80000000), ⟨[], []⟩⟩
def AS_ref11_Drop : Shape := ⟨[(0, (.dat tapi_Pool)), (1, (.dat (.int .i64)))], []⟩
def AZ_ref11_Drop : Shape := ⟨[(0, (.dat tapi_Pool)), (1, (.dat (.int .i64)))], []⟩
def AE_ref11_Drop : Ent := ⟨98, AS_ref11_Drop, AZ_ref11_Drop, ref11_Drop⟩
def AF_ref11_Drop : Fx := mkFx Acx (lookupG [AE_ref11_Used, AE_ref11_Copied, AE_ref11_Used_v2]) (fun k st => bif Nat.beq k 0 then AL_ref11_Drop_0.go (ref11_Drop_l0) 0 st else .fail) 0
theorem ref11_Drop_b0_eq (s : AL_ref11_Drop_0.S.ty.den) : @Eq (Option (AL_ref11_Drop_0.S.ty.den ⊕ AL_ref11_Drop_0.Out)) (AL_ref11_Drop_0.body (AF_ref11_Drop) (loopAt (bodyOf Tryz.f98) 0) 0 s).val (ref11_Drop_b0 s) := by kernel_rfl
theorem ref11_Drop_eq (s : AS_ref11_Drop.ty.den) : @Eq (Option AZ_ref11_Drop.ty.den) (evFn (AF_ref11_Drop) Tryz.f98 AS_ref11_Drop AZ_ref11_Drop s).val (ref11_Drop s) := by kernel_rfl
theorem ref11_Drop_hG : GSound Tryz.prog (AF_ref11_Drop).Γ := ents_sound ⟨(ref11_Used_ox), (ref11_Copied_ox), (ref11_Used_v2_ox), trivial⟩
theorem ref11_Drop_la0 : LamOK Tryz.prog (AF_ref11_Drop) Tryz.f98.ntmps 0 (loopAt (bodyOf Tryz.f98) 0) :=
  lam_sound Atab (ref11_Drop_hG) Amixed (L := AL_ref11_Drop_0) (f := ref11_Drop_l0) (b := ref11_Drop_b0) (m := []) (fun _ => rfl) (by kernel_rfl) (by kernel_rfl) trivial (by kernel_rfl) (rfOK_no _ (by kernel_rfl)) (ref11_Drop_b0_eq)
theorem ref11_Drop_ok : EntOK Tryz.prog (AE_ref11_Drop) :=
  fun_sound (F := (AF_ref11_Drop)) Atab (ref11_Drop_hG) Amixed (fn := Tryz.f98) (m := [(0, loopAt (bodyOf Tryz.f98) 0)]) Tryz.func98 (by kernel_rfl) (by kernel_rfl) (by kernel_rfl) ⟨ref11_Drop_la0, trivial⟩ (rfOK_no _ (by kernel_rfl)) (by kernel_rfl) (ref11_Drop_eq)
theorem ref11_Drop_ox : EntX Tryz.prog (AE_ref11_Drop) := (ref11_Drop_ok).x (by kernel_rfl)
def AL_ref12_Of_0 : Lp := ⟨⟨[(0, (.dat (.list tapi_Pair))), (6, (.ptr 0 tapi_Tree 0 [])), (7, (.ptr 1 tapi_Node 0 [])), (8, (.own tapi_Span 2)), (9, (.ptr 3 tapi_Pool 0 [])), (10, (.dat (.int .i64)))], [.box 36 tapi_Tree (.agg [(.agg [(.dat (.list tapi_Slot))]), (.dat (.int .i64)), (.agg [(.dat (.int .i64)), (.dat (.int .i64)), (.dat (.int .i64))])]), .box 98 tapi_Node (.agg [(.dat (.list tapi_Pair)), (.dat (.list .str)), (.own (.int .i64) 4), (.own tapi_Sum 5), (.dat (.list tapi_Msg))]), .arr 62 tapi_Span false, .box 32 tapi_Pool (.dat tapi_Pool), .arr 3 (.int .i64) false, .arr 161 tapi_Sum false]⟩, (.exit 0), ⟨[(6, (.ptr 0 tapi_Tree 0 [])), (7, (.ptr 1 tapi_Node 0 [])), (9, (.ptr 2 tapi_Pool 0 []))], [.box 36 tapi_Tree (.agg [(.agg [(.dat (.list tapi_Slot))]), (.dat (.int .i64)), (.agg [(.dat (.int .i64)), (.dat (.int .i64)), (.dat (.int .i64))])]), .box 98 tapi_Node (.agg [(.dat (.list tapi_Pair)), (.dat (.list .str)), (.own (.int .i64) 3), (.own tapi_Sum 4), (.dat (.list tapi_Msg))]), .box 32 tapi_Pool (.dat tapi_Pool), .arr 3 (.int .i64) false, .arr 161 tapi_Sum false]⟩, (.exit 80000000), ⟨[], []⟩⟩
def AL_ref12_Of_1 : Lp := ⟨⟨[(6, (.ptr 0 tapi_Tree 0 [])), (7, (.ptr 1 tapi_Node 0 [])), (9, (.ptr 2 tapi_Pool 0 [])), (13, (.ptr 3 tref11_Added 0 [])), (14, (.dat (.int .i64)))], [.box 36 tapi_Tree (.agg [(.agg [(.dat (.list tapi_Slot))]), (.dat (.int .i64)), (.agg [(.dat (.int .i64)), (.dat (.int .i64)), (.dat (.int .i64))])]), .box 98 tapi_Node (.agg [(.dat (.list tapi_Pair)), (.dat (.list .str)), (.own (.int .i64) 4), (.own tapi_Sum 5), (.dat (.list tapi_Msg))]), .box 32 tapi_Pool (.dat tapi_Pool), .box 152 tref11_Added (.dat tref11_Added), .arr 3 (.int .i64) true, .arr 161 tapi_Sum true]⟩, (.exit 2), ⟨[(6, (.ptr 0 tapi_Tree 0 [])), (9, (.ptr 1 tapi_Pool 0 [])), (13, (.ptr 2 tref11_Added 0 []))], [.box 36 tapi_Tree (.agg [(.agg [(.dat (.list tapi_Slot))]), (.dat (.int .i64)), (.agg [(.dat (.int .i64)), (.dat (.int .i64)), (.dat (.int .i64))])]), .box 32 tapi_Pool (.dat tapi_Pool), .box 152 tref11_Added (.dat tref11_Added)]⟩, (.exit 80000002), ⟨[], []⟩⟩
def AS_ref12_Of : Shape := ⟨[(0, (.dat (.list tapi_Pair))), (1, (.dat (.list .str))), (2, (.dat (.list tapi_Msg)))], []⟩
def AZ_ref12_Of : Shape := ⟨[(0, (.dat tapi_Tree))], []⟩
def AE_ref12_Of : Ent := ⟨49, AS_ref12_Of, AZ_ref12_Of, ref12_Of⟩
def AF_ref12_Of : Fx := mkFx Acx (lookupG [AE_ref10_Spans, AE_ref04_Range, AE_ref11_Add, AE_ref10_Sum, AE_ref11_Drop]) (fun k st => bif Nat.beq k 0 then AL_ref12_Of_0.go (ref12_Of_l0) 0 st else bif Nat.beq k 2 then AL_ref12_Of_1.go (ref12_Of_l1) 0 st else .fail) 0
theorem ref12_Of_b0_eq (s : AL_ref12_Of_0.S.ty.den) : @Eq (Option (AL_ref12_Of_0.S.ty.den ⊕ AL_ref12_Of_0.Out)) (AL_ref12_Of_0.body (AF_ref12_Of) (loopAt (bodyOf Tryz.f49) 0) 0 s).val (ref12_Of_b0 s) := by kernel_rfl
theorem ref12_Of_b1_eq (s : AL_ref12_Of_1.S.ty.den) : @Eq (Option (AL_ref12_Of_1.S.ty.den ⊕ AL_ref12_Of_1.Out)) (AL_ref12_Of_1.body (AF_ref12_Of) (loopAt (bodyOf Tryz.f49) 1) 2 s).val (ref12_Of_b1 s) := by kernel_rfl
theorem ref12_Of_eq (s : AS_ref12_Of.ty.den) : @Eq (Option AZ_ref12_Of.ty.den) (evFn (AF_ref12_Of) Tryz.f49 AS_ref12_Of AZ_ref12_Of s).val (ref12_Of s) := by kernel_rfl
theorem ref12_Of_hG : GSound Tryz.prog (AF_ref12_Of).Γ := ents_sound ⟨(ref10_Spans_ox), (ref04_Range_ox), (ref11_Add_ox), (ref10_Sum_ox), (ref11_Drop_ox), trivial⟩
theorem ref12_Of_la0 : LamOK Tryz.prog (AF_ref12_Of) Tryz.f49.ntmps 0 (loopAt (bodyOf Tryz.f49) 0) :=
  lam_sound Atab (ref12_Of_hG) Amixed (L := AL_ref12_Of_0) (f := ref12_Of_l0) (b := ref12_Of_b0) (m := []) (fun _ => rfl) (by kernel_rfl) (by kernel_rfl) trivial (by kernel_rfl) (rfOK_no _ (by kernel_rfl)) (ref12_Of_b0_eq)
theorem ref12_Of_la1 : LamOK Tryz.prog (AF_ref12_Of) Tryz.f49.ntmps 2 (loopAt (bodyOf Tryz.f49) 1) :=
  lam_sound Atab (ref12_Of_hG) Amixed (L := AL_ref12_Of_1) (f := ref12_Of_l1) (b := ref12_Of_b1) (m := []) (fun _ => rfl) (by kernel_rfl) (by kernel_rfl) trivial (by kernel_rfl) (rfOK_no _ (by kernel_rfl)) (ref12_Of_b1_eq)
theorem ref12_Of_ok : EntOK Tryz.prog (AE_ref12_Of) :=
  fun_sound (F := (AF_ref12_Of)) Atab (ref12_Of_hG) Amixed (fn := Tryz.f49) (m := [(0, loopAt (bodyOf Tryz.f49) 0), (2, loopAt (bodyOf Tryz.f49) 1)]) Tryz.func49 (by kernel_rfl) (by kernel_rfl) (by kernel_rfl) ⟨ref12_Of_la0, ref12_Of_la1, trivial⟩ (rfOK_no _ (by kernel_rfl)) (by kernel_rfl) (ref12_Of_eq)
theorem ref12_Of_ox : EntX Tryz.prog (AE_ref12_Of) := (ref12_Of_ok).x (by kernel_rfl)
def AS_cost_WeightC1 : Shape := ⟨[(0, (.dat (.int .i64))), (1, (.dat tapi_Span)), (2, (.dat (.list tapi_Msg))), (3, (.ptr 0 tapi_Tree 0 [])), (4, (.ptr 1 (.int .i64) 0 [])), (5, (.ptr 2 .opq 0 []))], [.box 36 tapi_Tree (.dat tapi_Tree), .box 3 (.int .i64) (.dat (.int .i64)), .box 112 .opq (.fn 55 [] [(.ptr 0 tapi_Tree 0 []), (.ptr 1 (.int .i64) 0 []), (.ptr 2 .opq 0 [])])]⟩
def AZ_cost_WeightC1 : Shape := ⟨[(0, (.dat (.int .i64)))], [.box 36 tapi_Tree (.dat tapi_Tree), .box 3 (.int .i64) (.dat (.int .i64)), .box 112 .opq (.fn 55 [] [(.ptr 0 tapi_Tree 0 []), (.ptr 1 (.int .i64) 0 []), (.ptr 2 .opq 0 [])])]⟩
def AE_cost_WeightC1_r (cost_WeightC1_r : ((Int) × (api_Span) × (List (api_Msg)) × (api_Tree) × (Int) × Unit) → Option ((Int) × (api_Tree) × (Int) × Unit)) : Ent := ⟨55, AS_cost_WeightC1, AZ_cost_WeightC1, cost_WeightC1_r⟩
def AS_pool_used : Shape := ⟨[(0, (.dat tapi_Pool)), (1, (.dat (.int .i64)))], []⟩
def AZ_pool_used : Shape := ⟨[(0, (.dat .bool))], []⟩
def AE_pool_used : Ent := ⟨112, AS_pool_used, AZ_pool_used, pool_used⟩
def AF_pool_used : Fx := mkFx Acx (lookupG []) (fun k st => .fail) 0
theorem pool_used_eq (s : AS_pool_used.ty.den) : @Eq (Option AZ_pool_used.ty.den) (evFn (AF_pool_used) Tryz.f112 AS_pool_used AZ_pool_used s).val (pool_used s) := by kernel_rfl
theorem pool_used_hG : GSound Tryz.prog (AF_pool_used).Γ := ents_sound trivial
theorem pool_used_ok : EntOK Tryz.prog (AE_pool_used) :=
  fun_sound (F := (AF_pool_used)) Atab (pool_used_hG) Amixed (fn := Tryz.f112) (m := []) Tryz.func112 (by kernel_rfl) (by kernel_rfl) (by kernel_rfl) trivial (rfOK_no _ (by kernel_rfl)) (by kernel_rfl) (pool_used_eq)
theorem pool_used_ox : EntX Tryz.prog (AE_pool_used) := (pool_used_ok).x (by kernel_rfl)
def AS_pool_Get : Shape := ⟨[(0, (.dat tapi_Pool)), (1, (.dat (.int .i64)))], []⟩
def AZ_pool_Get : Shape := ⟨[(0, (.dat tapi_Node)), (1, (.dat (.int .i64)))], []⟩
def AE_pool_Get : Ent := ⟨56, AS_pool_Get, AZ_pool_Get, pool_Get⟩
def AF_pool_Get : Fx := mkFx Acx (lookupG [AE_pool_used]) (fun k st => .fail) 0
theorem pool_Get_eq (s : AS_pool_Get.ty.den) : @Eq (Option AZ_pool_Get.ty.den) (evFn (AF_pool_Get) Tryz.f56 AS_pool_Get AZ_pool_Get s).val (pool_Get s) := by kernel_rfl
theorem pool_Get_hG : GSound Tryz.prog (AF_pool_Get).Γ := ents_sound ⟨(pool_used_ox), trivial⟩
theorem pool_Get_ok : EntOK Tryz.prog (AE_pool_Get) :=
  fun_sound (F := (AF_pool_Get)) Atab (pool_Get_hG) Amixed (fn := Tryz.f56) (m := []) Tryz.func56 (by kernel_rfl) (by kernel_rfl) (by kernel_rfl) trivial (rfOK_no _ (by kernel_rfl)) (by kernel_rfl) (pool_Get_eq)
theorem pool_Get_ox : EntX Tryz.prog (AE_pool_Get) := (pool_Get_ok).x (by kernel_rfl)
def AS_slices_Grow_api_Msg_api_Msg : Shape := ⟨[(0, (.nils 64 tapi_Msg)), (1, (.dat (.int .i64)))], []⟩
def AZ_slices_Grow_api_Msg_api_Msg : Shape := ⟨[(0, (.own tapi_Msg 0))], [.arr 64 tapi_Msg false]⟩
def AE_slices_Grow_api_Msg_api_Msg : Ent := ⟨113, AS_slices_Grow_api_Msg_api_Msg, AZ_slices_Grow_api_Msg_api_Msg, slices_Grow_api_Msg_api_Msg⟩
def AF_slices_Grow_api_Msg_api_Msg : Fx := mkFx Acx (lookupG []) (fun k st => .fail) 0
theorem slices_Grow_api_Msg_api_Msg_eq (s : AS_slices_Grow_api_Msg_api_Msg.ty.den) : @Eq (Option AZ_slices_Grow_api_Msg_api_Msg.ty.den) (evFn (AF_slices_Grow_api_Msg_api_Msg) Tryz.f113 AS_slices_Grow_api_Msg_api_Msg AZ_slices_Grow_api_Msg_api_Msg s).val (slices_Grow_api_Msg_api_Msg s) := by kernel_rfl
theorem slices_Grow_api_Msg_api_Msg_hG : GSound Tryz.prog (AF_slices_Grow_api_Msg_api_Msg).Γ := ents_sound trivial
theorem slices_Grow_api_Msg_api_Msg_ok : EntOK Tryz.prog (AE_slices_Grow_api_Msg_api_Msg) :=
  fun_sound (F := (AF_slices_Grow_api_Msg_api_Msg)) Atab (slices_Grow_api_Msg_api_Msg_hG) Amixed (fn := Tryz.f113) (m := []) Tryz.func113 (by kernel_rfl) (by kernel_rfl) (by kernel_rfl) trivial (rfOK_no _ (by kernel_rfl)) (by kernel_rfl) (slices_Grow_api_Msg_api_Msg_eq)
theorem slices_Grow_api_Msg_api_Msg_ox : EntX Tryz.prog (AE_slices_Grow_api_Msg_api_Msg) := (slices_Grow_api_Msg_api_Msg_ok).x (by kernel_rfl)

end D
/- Entries, by program. -/
set_option linter.unusedVariables false
set_option maxRecDepth 100000
open Go Go.X Go.Proofs D
namespace D
def AL_slices_Concat_api_Msg_api_Msg_0 : Lp := ⟨⟨[(0, (.dat (.list (.list tapi_Msg)))), (3, (.dat (.int .i64))), (9, (.dat (.list (.list tapi_Msg)))), (10, (.dat (.int .i64))), (11, (.dat (.int .i64)))], []⟩, (.exit 0), ⟨[(0, (.dat (.list (.list tapi_Msg)))), (3, (.dat (.int .i64)))], []⟩, (.exit 80000000), ⟨[], []⟩⟩
def AL_slices_Concat_api_Msg_api_Msg_1 : Lp := ⟨⟨[(6, (.own tapi_Msg 0)), (25, (.dat (.list (.list tapi_Msg)))), (26, (.dat (.int .i64))), (27, (.dat (.int .i64)))], [.arr 64 tapi_Msg false]⟩, (.exit 2), ⟨[(6, (.own tapi_Msg 0))], [.arr 64 tapi_Msg false]⟩, (.exit 80000002), ⟨[], []⟩⟩
def AS_slices_Concat_api_Msg_api_Msg : Shape := ⟨[(0, (.dat (.list (.list tapi_Msg))))], []⟩
def AZ_slices_Concat_api_Msg_api_Msg : Shape := ⟨[(0, (.own tapi_Msg 0))], [.arr 64 tapi_Msg false]⟩
def AE_slices_Concat_api_Msg_api_Msg : Ent := ⟨57, AS_slices_Concat_api_Msg_api_Msg, AZ_slices_Concat_api_Msg_api_Msg, slices_Concat_api_Msg_api_Msg⟩
def AF_slices_Concat_api_Msg_api_Msg : Fx := mkFx Acx (lookupG [AE_slices_Grow_api_Msg_api_Msg]) (fun k st => bif Nat.beq k 0 then AL_slices_Concat_api_Msg_api_Msg_0.go (slices_Concat_api_Msg_api_Msg_l0) 0 st else bif Nat.beq k 2 then AL_slices_Concat_api_Msg_api_Msg_1.go (slices_Concat_api_Msg_api_Msg_l1) 0 st else .fail) 0
theorem slices_Concat_api_Msg_api_Msg_b0_eq (s : AL_slices_Concat_api_Msg_api_Msg_0.S.ty.den) : @Eq (Option (AL_slices_Concat_api_Msg_api_Msg_0.S.ty.den ⊕ AL_slices_Concat_api_Msg_api_Msg_0.Out)) (AL_slices_Concat_api_Msg_api_Msg_0.body (AF_slices_Concat_api_Msg_api_Msg) (loopAt (bodyOf Tryz.f57) 0) 0 s).val (slices_Concat_api_Msg_api_Msg_b0 s) := by kernel_rfl
theorem slices_Concat_api_Msg_api_Msg_b1_eq (s : AL_slices_Concat_api_Msg_api_Msg_1.S.ty.den) : @Eq (Option (AL_slices_Concat_api_Msg_api_Msg_1.S.ty.den ⊕ AL_slices_Concat_api_Msg_api_Msg_1.Out)) (AL_slices_Concat_api_Msg_api_Msg_1.body (AF_slices_Concat_api_Msg_api_Msg) (loopAt (bodyOf Tryz.f57) 1) 2 s).val (slices_Concat_api_Msg_api_Msg_b1 s) := by kernel_rfl
theorem slices_Concat_api_Msg_api_Msg_eq (s : AS_slices_Concat_api_Msg_api_Msg.ty.den) : @Eq (Option AZ_slices_Concat_api_Msg_api_Msg.ty.den) (evFn (AF_slices_Concat_api_Msg_api_Msg) Tryz.f57 AS_slices_Concat_api_Msg_api_Msg AZ_slices_Concat_api_Msg_api_Msg s).val (slices_Concat_api_Msg_api_Msg s) := by kernel_rfl
theorem slices_Concat_api_Msg_api_Msg_hG : GSound Tryz.prog (AF_slices_Concat_api_Msg_api_Msg).Γ := ents_sound ⟨(slices_Grow_api_Msg_api_Msg_ox), trivial⟩
theorem slices_Concat_api_Msg_api_Msg_la0 : LamOK Tryz.prog (AF_slices_Concat_api_Msg_api_Msg) Tryz.f57.ntmps 0 (loopAt (bodyOf Tryz.f57) 0) :=
  lam_sound Atab (slices_Concat_api_Msg_api_Msg_hG) Amixed (L := AL_slices_Concat_api_Msg_api_Msg_0) (f := slices_Concat_api_Msg_api_Msg_l0) (b := slices_Concat_api_Msg_api_Msg_b0) (m := []) (fun _ => rfl) (by kernel_rfl) (by kernel_rfl) trivial (by kernel_rfl) (rfOK_no _ (by kernel_rfl)) (slices_Concat_api_Msg_api_Msg_b0_eq)
theorem slices_Concat_api_Msg_api_Msg_la1 : LamOK Tryz.prog (AF_slices_Concat_api_Msg_api_Msg) Tryz.f57.ntmps 2 (loopAt (bodyOf Tryz.f57) 1) :=
  lam_sound Atab (slices_Concat_api_Msg_api_Msg_hG) Amixed (L := AL_slices_Concat_api_Msg_api_Msg_1) (f := slices_Concat_api_Msg_api_Msg_l1) (b := slices_Concat_api_Msg_api_Msg_b1) (m := []) (fun _ => rfl) (by kernel_rfl) (by kernel_rfl) trivial (by kernel_rfl) (rfOK_no _ (by kernel_rfl)) (slices_Concat_api_Msg_api_Msg_b1_eq)
theorem slices_Concat_api_Msg_api_Msg_ok : EntOK Tryz.prog (AE_slices_Concat_api_Msg_api_Msg) :=
  fun_sound (F := (AF_slices_Concat_api_Msg_api_Msg)) Atab (slices_Concat_api_Msg_api_Msg_hG) Amixed (fn := Tryz.f57) (m := [(0, loopAt (bodyOf Tryz.f57) 0), (2, loopAt (bodyOf Tryz.f57) 1)]) Tryz.func57 (by kernel_rfl) (by kernel_rfl) (by kernel_rfl) ⟨slices_Concat_api_Msg_api_Msg_la0, slices_Concat_api_Msg_api_Msg_la1, trivial⟩ (rfOK_no _ (by kernel_rfl)) (by kernel_rfl) (slices_Concat_api_Msg_api_Msg_eq)
theorem slices_Concat_api_Msg_api_Msg_ox : EntX Tryz.prog (AE_slices_Concat_api_Msg_api_Msg) := (slices_Concat_api_Msg_api_Msg_ok).x (by kernel_rfl)
def AS_cmp_isNaN_span_end : Shape := ⟨[(0, (.dat .str))], []⟩
def AZ_cmp_isNaN_span_end : Shape := ⟨[(0, (.dat .bool))], []⟩
def AE_cmp_isNaN_span_end : Ent := ⟨259, AS_cmp_isNaN_span_end, AZ_cmp_isNaN_span_end, cmp_isNaN_span_end⟩
def AF_cmp_isNaN_span_end : Fx := mkFx Acx (lookupG []) (fun k st => .fail) 0
theorem cmp_isNaN_span_end_eq (s : AS_cmp_isNaN_span_end.ty.den) : @Eq (Option AZ_cmp_isNaN_span_end.ty.den) (evFn (AF_cmp_isNaN_span_end) Tryz.f259 AS_cmp_isNaN_span_end AZ_cmp_isNaN_span_end s).val (cmp_isNaN_span_end s) := by kernel_rfl
theorem cmp_isNaN_span_end_hG : GSound Tryz.prog (AF_cmp_isNaN_span_end).Γ := ents_sound trivial
theorem cmp_isNaN_span_end_ok : EntOK Tryz.prog (AE_cmp_isNaN_span_end) :=
  fun_sound (F := (AF_cmp_isNaN_span_end)) Atab (cmp_isNaN_span_end_hG) Amixed (fn := Tryz.f259) (m := []) Tryz.func259 (by kernel_rfl) (by kernel_rfl) (by kernel_rfl) trivial (rfOK_no _ (by kernel_rfl)) (by kernel_rfl) (cmp_isNaN_span_end_eq)
theorem cmp_isNaN_span_end_ox : EntX Tryz.prog (AE_cmp_isNaN_span_end) := (cmp_isNaN_span_end_ok).x (by kernel_rfl)
def AS_cmp_Compare_span_end : Shape := ⟨[(0, (.dat .str)), (1, (.dat .str))], []⟩
def AZ_cmp_Compare_span_end : Shape := ⟨[(0, (.dat (.int .i64)))], []⟩
def AE_cmp_Compare_span_end : Ent := ⟨232, AS_cmp_Compare_span_end, AZ_cmp_Compare_span_end, cmp_Compare_span_end⟩
def AF_cmp_Compare_span_end : Fx := mkFx Acx (lookupG [AE_cmp_isNaN_span_end]) (fun k st => .fail) 0
theorem cmp_Compare_span_end_eq (s : AS_cmp_Compare_span_end.ty.den) : @Eq (Option AZ_cmp_Compare_span_end.ty.den) (evFn (AF_cmp_Compare_span_end) Tryz.f232 AS_cmp_Compare_span_end AZ_cmp_Compare_span_end s).val (cmp_Compare_span_end s) := by kernel_rfl
theorem cmp_Compare_span_end_hG : GSound Tryz.prog (AF_cmp_Compare_span_end).Γ := ents_sound ⟨(cmp_isNaN_span_end_ox), trivial⟩
theorem cmp_Compare_span_end_ok : EntOK Tryz.prog (AE_cmp_Compare_span_end) :=
  fun_sound (F := (AF_cmp_Compare_span_end)) Atab (cmp_Compare_span_end_hG) Amixed (fn := Tryz.f232) (m := []) Tryz.func232 (by kernel_rfl) (by kernel_rfl) (by kernel_rfl) trivial (rfOK_no _ (by kernel_rfl)) (by kernel_rfl) (cmp_Compare_span_end_eq)
theorem cmp_Compare_span_end_ox : EntX Tryz.prog (AE_cmp_Compare_span_end) := (cmp_Compare_span_end_ok).x (by kernel_rfl)
def AS_span_end_compare : Shape := ⟨[(0, (.dat .str)), (1, (.dat .str))], []⟩
def AZ_span_end_compare : Shape := ⟨[(0, (.dat (.int .i64)))], []⟩
def AE_span_end_compare : Ent := ⟨175, AS_span_end_compare, AZ_span_end_compare, span_end_compare⟩
def AF_span_end_compare : Fx := mkFx Acx (lookupG [AE_cmp_Compare_span_end]) (fun k st => .fail) 0
theorem span_end_compare_eq (s : AS_span_end_compare.ty.den) : @Eq (Option AZ_span_end_compare.ty.den) (evFn (AF_span_end_compare) Tryz.f175 AS_span_end_compare AZ_span_end_compare s).val (span_end_compare s) := by kernel_rfl
theorem span_end_compare_hG : GSound Tryz.prog (AF_span_end_compare).Γ := ents_sound ⟨(cmp_Compare_span_end_ox), trivial⟩
theorem span_end_compare_ok : EntOK Tryz.prog (AE_span_end_compare) :=
  fun_sound (F := (AF_span_end_compare)) Atab (span_end_compare_hG) Amixed (fn := Tryz.f175) (m := []) Tryz.func175 (by kernel_rfl) (by kernel_rfl) (by kernel_rfl) trivial (rfOK_no _ (by kernel_rfl)) (by kernel_rfl) (span_end_compare_eq)
theorem span_end_compare_ox : EntX Tryz.prog (AE_span_end_compare) := (span_end_compare_ok).x (by kernel_rfl)
def AL_slices_MinFunc_span_end_span_end_0 : Lp := ⟨⟨[(0, (.dat (.list .str))), (1, (.fn 175 [] [])), (5, (.dat .str)), (6, (.dat (.int .i64)))], []⟩, (.exit 0), ⟨[(5, (.dat .str))], []⟩, (.exit 80000000), ⟨[], []⟩⟩
def AS_slices_MinFunc_span_end_span_end : Shape := ⟨[(0, (.dat (.list .str))), (1, (.fn 175 [] []))], []⟩
def AZ_slices_MinFunc_span_end_span_end : Shape := ⟨[(0, (.dat .str))], []⟩
def AE_slices_MinFunc_span_end_span_end : Ent := ⟨174, AS_slices_MinFunc_span_end_span_end, AZ_slices_MinFunc_span_end_span_end, slices_MinFunc_span_end_span_end⟩
def AF_slices_MinFunc_span_end_span_end : Fx := mkFx Acx (lookupG [AE_span_end_compare]) (fun k st => bif Nat.beq k 0 then AL_slices_MinFunc_span_end_span_end_0.go (slices_MinFunc_span_end_span_end_l0) 0 st else .fail) 0
theorem slices_MinFunc_span_end_span_end_b0_eq (s : AL_slices_MinFunc_span_end_span_end_0.S.ty.den) : @Eq (Option (AL_slices_MinFunc_span_end_span_end_0.S.ty.den ⊕ AL_slices_MinFunc_span_end_span_end_0.Out)) (AL_slices_MinFunc_span_end_span_end_0.body (AF_slices_MinFunc_span_end_span_end) (loopAt (bodyOf Tryz.f174) 0) 0 s).val (slices_MinFunc_span_end_span_end_b0 s) := by kernel_rfl
theorem slices_MinFunc_span_end_span_end_eq (s : AS_slices_MinFunc_span_end_span_end.ty.den) : @Eq (Option AZ_slices_MinFunc_span_end_span_end.ty.den) (evFn (AF_slices_MinFunc_span_end_span_end) Tryz.f174 AS_slices_MinFunc_span_end_span_end AZ_slices_MinFunc_span_end_span_end s).val (slices_MinFunc_span_end_span_end s) := by kernel_rfl
theorem slices_MinFunc_span_end_span_end_hG : GSound Tryz.prog (AF_slices_MinFunc_span_end_span_end).Γ := ents_sound ⟨(span_end_compare_ox), trivial⟩
theorem slices_MinFunc_span_end_span_end_la0 : LamOK Tryz.prog (AF_slices_MinFunc_span_end_span_end) Tryz.f174.ntmps 0 (loopAt (bodyOf Tryz.f174) 0) :=
  lam_sound Atab (slices_MinFunc_span_end_span_end_hG) Amixed (L := AL_slices_MinFunc_span_end_span_end_0) (f := slices_MinFunc_span_end_span_end_l0) (b := slices_MinFunc_span_end_span_end_b0) (m := []) (fun _ => rfl) (by kernel_rfl) (by kernel_rfl) trivial (by kernel_rfl) (rfOK_no _ (by kernel_rfl)) (slices_MinFunc_span_end_span_end_b0_eq)
theorem slices_MinFunc_span_end_span_end_ok : EntOK Tryz.prog (AE_slices_MinFunc_span_end_span_end) :=
  fun_sound (F := (AF_slices_MinFunc_span_end_span_end)) Atab (slices_MinFunc_span_end_span_end_hG) Amixed (fn := Tryz.f174) (m := [(0, loopAt (bodyOf Tryz.f174) 0)]) Tryz.func174 (by kernel_rfl) (by kernel_rfl) (by kernel_rfl) ⟨slices_MinFunc_span_end_span_end_la0, trivial⟩ (rfOK_no _ (by kernel_rfl)) (by kernel_rfl) (slices_MinFunc_span_end_span_end_eq)
theorem slices_MinFunc_span_end_span_end_ox : EntX Tryz.prog (AE_slices_MinFunc_span_end_span_end) := (slices_MinFunc_span_end_span_end_ok).x (by kernel_rfl)
def AS_span_least : Shape := ⟨[(0, (.dat (.list .str)))], []⟩
def AZ_span_least : Shape := ⟨[(0, (.dat .str))], []⟩
def AE_span_least : Ent := ⟨118, AS_span_least, AZ_span_least, span_least⟩
def AF_span_least : Fx := mkFx Acx (lookupG [AE_slices_MinFunc_span_end_span_end]) (fun k st => .fail) 0
theorem span_least_eq (s : AS_span_least.ty.den) : @Eq (Option AZ_span_least.ty.den) (evFn (AF_span_least) Tryz.f118 AS_span_least AZ_span_least s).val (span_least s) := by kernel_rfl
theorem span_least_hG : GSound Tryz.prog (AF_span_least).Γ := ents_sound ⟨(slices_MinFunc_span_end_span_end_ox), trivial⟩
theorem span_least_ok : EntOK Tryz.prog (AE_span_least) :=
  fun_sound (F := (AF_span_least)) Atab (span_least_hG) Amixed (fn := Tryz.f118) (m := []) Tryz.func118 (by kernel_rfl) (by kernel_rfl) (by kernel_rfl) trivial (rfOK_no _ (by kernel_rfl)) (by kernel_rfl) (span_least_eq)
theorem span_least_ox : EntX Tryz.prog (AE_span_least) := (span_least_ok).x (by kernel_rfl)
def AS_span_Empty : Shape := ⟨[(0, (.dat tapi_Span))], []⟩
def AZ_span_Empty : Shape := ⟨[(0, (.dat .bool))], []⟩
def AE_span_Empty : Ent := ⟨65, AS_span_Empty, AZ_span_Empty, span_Empty⟩
def AF_span_Empty : Fx := mkFx Acx (lookupG []) (fun k st => .fail) 0
theorem span_Empty_eq (s : AS_span_Empty.ty.den) : @Eq (Option AZ_span_Empty.ty.den) (evFn (AF_span_Empty) Tryz.f65 AS_span_Empty AZ_span_Empty s).val (span_Empty s) := by kernel_rfl
theorem span_Empty_hG : GSound Tryz.prog (AF_span_Empty).Γ := ents_sound trivial
theorem span_Empty_ok : EntOK Tryz.prog (AE_span_Empty) :=
  fun_sound (F := (AF_span_Empty)) Atab (span_Empty_hG) Amixed (fn := Tryz.f65) (m := []) Tryz.func65 (by kernel_rfl) (by kernel_rfl) (by kernel_rfl) trivial (rfOK_no _ (by kernel_rfl)) (by kernel_rfl) (span_Empty_eq)
theorem span_Empty_ox : EntX Tryz.prog (AE_span_Empty) := (span_Empty_ok).x (by kernel_rfl)
def AS_span_Meet : Shape := ⟨[(0, (.dat tapi_Span)), (1, (.dat tapi_Span))], []⟩
def AZ_span_Meet : Shape := ⟨[(0, (.dat tapi_Span))], []⟩
def AE_span_Meet : Ent := ⟨66, AS_span_Meet, AZ_span_Meet, span_Meet⟩
def AF_span_Meet : Fx := mkFx Acx (lookupG [AE_span_least, AE_span_Empty]) (fun k st => .fail) 0
theorem span_Meet_eq (s : AS_span_Meet.ty.den) : @Eq (Option AZ_span_Meet.ty.den) (evFn (AF_span_Meet) Tryz.f66 AS_span_Meet AZ_span_Meet s).val (span_Meet s) := by kernel_rfl
theorem span_Meet_hG : GSound Tryz.prog (AF_span_Meet).Γ := ents_sound ⟨(span_least_ox), (span_Empty_ox), trivial⟩
theorem span_Meet_ok : EntOK Tryz.prog (AE_span_Meet) :=
  fun_sound (F := (AF_span_Meet)) Atab (span_Meet_hG) Amixed (fn := Tryz.f66) (m := []) Tryz.func66 (by kernel_rfl) (by kernel_rfl) (by kernel_rfl) trivial (rfOK_no _ (by kernel_rfl)) (by kernel_rfl) (span_Meet_eq)
theorem span_Meet_ox : EntX Tryz.prog (AE_span_Meet) := (span_Meet_ok).x (by kernel_rfl)
def AL_span_Parts_0 : Lp := ⟨⟨[(2, (.ptr 0 tapi_Span 0 [])), (5, (.own tapi_Span 1)), (6, (.dat .str)), (9, (.dat (.list .str))), (10, (.dat (.int .i64))), (11, (.dat (.int .i64)))], [.box 62 tapi_Span (.dat tapi_Span), .arr 62 tapi_Span false]⟩, (.exit 0), ⟨[(2, (.ptr 0 tapi_Span 0 [])), (5, (.own tapi_Span 1)), (6, (.dat .str))], [.box 62 tapi_Span (.dat tapi_Span), .arr 62 tapi_Span false]⟩, (.exit 80000000), ⟨[], []⟩⟩
def AS_span_Parts : Shape := ⟨[(0, (.dat tapi_Span)), (1, (.dat (.list .str)))], []⟩
def AZ_span_Parts : Shape := ⟨[(0, (.own tapi_Span 0))], [.arr 62 tapi_Span false]⟩
def AE_span_Parts : Ent := ⟨114, AS_span_Parts, AZ_span_Parts, span_Parts⟩
def AF_span_Parts : Fx := mkFx Acx (lookupG [AE_span_Meet]) (fun k st => bif Nat.beq k 0 then AL_span_Parts_0.go (span_Parts_l0) 0 st else .fail) 0
theorem span_Parts_b0_eq (s : AL_span_Parts_0.S.ty.den) : @Eq (Option (AL_span_Parts_0.S.ty.den ⊕ AL_span_Parts_0.Out)) (AL_span_Parts_0.body (AF_span_Parts) (loopAt (bodyOf Tryz.f114) 0) 0 s).val (span_Parts_b0 s) := by kernel_rfl
theorem span_Parts_eq (s : AS_span_Parts.ty.den) : @Eq (Option AZ_span_Parts.ty.den) (evFn (AF_span_Parts) Tryz.f114 AS_span_Parts AZ_span_Parts s).val (span_Parts s) := by kernel_rfl
theorem span_Parts_hG : GSound Tryz.prog (AF_span_Parts).Γ := ents_sound ⟨(span_Meet_ox), trivial⟩
theorem span_Parts_la0 : LamOK Tryz.prog (AF_span_Parts) Tryz.f114.ntmps 0 (loopAt (bodyOf Tryz.f114) 0) :=
  lam_sound Atab (span_Parts_hG) Amixed (L := AL_span_Parts_0) (f := span_Parts_l0) (b := span_Parts_b0) (m := []) (fun _ => rfl) (by kernel_rfl) (by kernel_rfl) trivial (by kernel_rfl) (rfOK_no _ (by kernel_rfl)) (span_Parts_b0_eq)
theorem span_Parts_ok : EntOK Tryz.prog (AE_span_Parts) :=
  fun_sound (F := (AF_span_Parts)) Atab (span_Parts_hG) Amixed (fn := Tryz.f114) (m := [(0, loopAt (bodyOf Tryz.f114) 0)]) Tryz.func114 (by kernel_rfl) (by kernel_rfl) (by kernel_rfl) ⟨span_Parts_la0, trivial⟩ (rfOK_no _ (by kernel_rfl)) (by kernel_rfl) (span_Parts_eq)
theorem span_Parts_ox : EntX Tryz.prog (AE_span_Parts) := (span_Parts_ok).x (by kernel_rfl)
def AS_node_Spans : Shape := ⟨[(0, (.dat tapi_Node)), (1, (.dat tapi_Span))], []⟩
def AZ_node_Spans : Shape := ⟨[(0, (.own tapi_Span 0))], [.arr 62 tapi_Span false]⟩
def AE_node_Spans : Ent := ⟨58, AS_node_Spans, AZ_node_Spans, node_Spans⟩
def AF_node_Spans : Fx := mkFx Acx (lookupG [AE_span_Parts]) (fun k st => .fail) 0
theorem node_Spans_eq (s : AS_node_Spans.ty.den) : @Eq (Option AZ_node_Spans.ty.den) (evFn (AF_node_Spans) Tryz.f58 AS_node_Spans AZ_node_Spans s).val (node_Spans s) := by kernel_rfl
theorem node_Spans_hG : GSound Tryz.prog (AF_node_Spans).Γ := ents_sound ⟨(span_Parts_ox), trivial⟩
theorem node_Spans_ok : EntOK Tryz.prog (AE_node_Spans) :=
  fun_sound (F := (AF_node_Spans)) Atab (node_Spans_hG) Amixed (fn := Tryz.f58) (m := []) Tryz.func58 (by kernel_rfl) (by kernel_rfl) (by kernel_rfl) trivial (rfOK_no _ (by kernel_rfl)) (by kernel_rfl) (node_Spans_eq)
theorem node_Spans_ox : EntX Tryz.prog (AE_node_Spans) := (node_Spans_ok).x (by kernel_rfl)
def AS_slices_Clone_api_Msg_api_Msg : Shape := ⟨[(0, (.dat (.list tapi_Msg)))], []⟩
def AZ_slices_Clone_api_Msg_api_Msg : Shape := ⟨[(0, (.own tapi_Msg 0))], [.arr 64 tapi_Msg false]⟩
def AE_slices_Clone_api_Msg_api_Msg : Ent := ⟨60, AS_slices_Clone_api_Msg_api_Msg, AZ_slices_Clone_api_Msg_api_Msg, slices_Clone_api_Msg_api_Msg⟩
def AF_slices_Clone_api_Msg_api_Msg : Fx := mkFx Acx (lookupG []) (fun _ _ => .fail) 0
theorem slices_Clone_api_Msg_api_Msg_ok : EntOK Tryz.prog AE_slices_Clone_api_Msg_api_Msg :=
  clone_ent (F := AF_slices_Clone_api_Msg_api_Msg) Atab (ents_sound trivial) Amixed (fn := Tryz.f60) Tryz.func60 (by kernel_rfl) (by kernel_rfl) (by kernel_rfl) (by kernel_rfl) (by kernel_rfl) (fun s => (decide ((List.length ([] : List (api_Msg)) + List.length s.1) * 112 ≤ roomMax))) (fun s => (s.1, ())) (fun s => ([], ())) (fun s => List.length s.1) (fun s => rfl) (fun s => by kernel_rfl) (fun s => by kernel_rfl) (fun s h => congrArg (fun l => (l, ())) (List.eq_nil_of_length_eq_zero h).symm)
theorem slices_Clone_api_Msg_api_Msg_ox : EntX Tryz.prog AE_slices_Clone_api_Msg_api_Msg := slices_Clone_api_Msg_api_Msg_ok.x (by kernel_rfl)
def AS_span_One : Shape := ⟨[(0, (.dat .str))], []⟩
def AZ_span_One : Shape := ⟨[(0, (.dat tapi_Span))], []⟩
def AE_span_One : Ent := ⟨239, AS_span_One, AZ_span_One, span_One⟩
def AF_span_One : Fx := mkFx Acx (lookupG []) (fun k st => .fail) 0
theorem span_One_eq (s : AS_span_One.ty.den) : @Eq (Option AZ_span_One.ty.den) (evFn (AF_span_One) Tryz.f239 AS_span_One AZ_span_One s).val (span_One s) := by kernel_rfl
theorem span_One_hG : GSound Tryz.prog (AF_span_One).Γ := ents_sound trivial
theorem span_One_ok : EntOK Tryz.prog (AE_span_One) :=
  fun_sound (F := (AF_span_One)) Atab (span_One_hG) Amixed (fn := Tryz.f239) (m := []) Tryz.func239 (by kernel_rfl) (by kernel_rfl) (by kernel_rfl) trivial (rfOK_no _ (by kernel_rfl)) (by kernel_rfl) (span_One_eq)
theorem span_One_ox : EntX Tryz.prog (AE_span_One) := (span_One_ok).x (by kernel_rfl)
def AS_msg_put_writes : Shape := ⟨[(0, (.dat tapi_Msg))], []⟩
def AZ_msg_put_writes : Shape := ⟨[(0, (.own tapi_Span 0))], [.arr 62 tapi_Span false]⟩
def AE_msg_put_writes : Ent := ⟨353, AS_msg_put_writes, AZ_msg_put_writes, msg_put_writes⟩
def AF_msg_put_writes : Fx := mkFx Acx (lookupG [AE_span_One]) (fun k st => .fail) 0
theorem msg_put_writes_eq (s : AS_msg_put_writes.ty.den) : @Eq (Option AZ_msg_put_writes.ty.den) (evFn (AF_msg_put_writes) Tryz.f353 AS_msg_put_writes AZ_msg_put_writes s).val (msg_put_writes s) := by kernel_rfl
theorem msg_put_writes_hG : GSound Tryz.prog (AF_msg_put_writes).Γ := ents_sound ⟨(span_One_ox), trivial⟩
theorem msg_put_writes_ok : EntOK Tryz.prog (AE_msg_put_writes) :=
  fun_sound (F := (AF_msg_put_writes)) Atab (msg_put_writes_hG) Amixed (fn := Tryz.f353) (m := []) Tryz.func353 (by kernel_rfl) (by kernel_rfl) (by kernel_rfl) trivial (rfOK_no _ (by kernel_rfl)) (by kernel_rfl) (msg_put_writes_eq)
theorem msg_put_writes_ox : EntX Tryz.prog (AE_msg_put_writes) := (msg_put_writes_ok).x (by kernel_rfl)
def AS_msg_del_writes : Shape := ⟨[(0, (.dat tapi_Msg))], []⟩
def AZ_msg_del_writes : Shape := ⟨[(0, (.own tapi_Span 0))], [.arr 62 tapi_Span false]⟩
def AE_msg_del_writes : Ent := ⟨366, AS_msg_del_writes, AZ_msg_del_writes, msg_del_writes⟩
def AF_msg_del_writes : Fx := mkFx Acx (lookupG [AE_span_One]) (fun k st => .fail) 0
theorem msg_del_writes_eq (s : AS_msg_del_writes.ty.den) : @Eq (Option AZ_msg_del_writes.ty.den) (evFn (AF_msg_del_writes) Tryz.f366 AS_msg_del_writes AZ_msg_del_writes s).val (msg_del_writes s) := by kernel_rfl
theorem msg_del_writes_hG : GSound Tryz.prog (AF_msg_del_writes).Γ := ents_sound ⟨(span_One_ox), trivial⟩
theorem msg_del_writes_ok : EntOK Tryz.prog (AE_msg_del_writes) :=
  fun_sound (F := (AF_msg_del_writes)) Atab (msg_del_writes_hG) Amixed (fn := Tryz.f366) (m := []) Tryz.func366 (by kernel_rfl) (by kernel_rfl) (by kernel_rfl) trivial (rfOK_no _ (by kernel_rfl)) (by kernel_rfl) (msg_del_writes_eq)
theorem msg_del_writes_ox : EntX Tryz.prog (AE_msg_del_writes) := (msg_del_writes_ok).x (by kernel_rfl)
def AS_msg_drop_writes : Shape := ⟨[(0, (.dat tapi_Msg))], []⟩
def AZ_msg_drop_writes : Shape := ⟨[(0, (.own tapi_Span 0))], [.arr 62 tapi_Span false]⟩
def AE_msg_drop_writes : Ent := ⟨377, AS_msg_drop_writes, AZ_msg_drop_writes, msg_drop_writes⟩
def AF_msg_drop_writes : Fx := mkFx Acx (lookupG []) (fun k st => .fail) 0
theorem msg_drop_writes_eq (s : AS_msg_drop_writes.ty.den) : @Eq (Option AZ_msg_drop_writes.ty.den) (evFn (AF_msg_drop_writes) Tryz.f377 AS_msg_drop_writes AZ_msg_drop_writes s).val (msg_drop_writes s) := by kernel_rfl
theorem msg_drop_writes_hG : GSound Tryz.prog (AF_msg_drop_writes).Γ := ents_sound trivial
theorem msg_drop_writes_ok : EntOK Tryz.prog (AE_msg_drop_writes) :=
  fun_sound (F := (AF_msg_drop_writes)) Atab (msg_drop_writes_hG) Amixed (fn := Tryz.f377) (m := []) Tryz.func377 (by kernel_rfl) (by kernel_rfl) (by kernel_rfl) trivial (rfOK_no _ (by kernel_rfl)) (by kernel_rfl) (msg_drop_writes_eq)
theorem msg_drop_writes_ox : EntX Tryz.prog (AE_msg_drop_writes) := (msg_drop_writes_ok).x (by kernel_rfl)
def AL_span_Prefix_0 : Lp := ⟨⟨[(0, (.dat .str)), (2, (.ptr 0 tapi_Span 0 [])), (3, (.own (.int .u8) 1))], [.box 62 tapi_Span (.agg [(.dat .str), (.dat .str)]), .arr 5 (.int .u8) false]⟩, (.exit 0), ⟨[(0, (.dat .str)), (2, (.ptr 0 tapi_Span 0 [])), (3, (.own (.int .u8) 1))], [.box 62 tapi_Span (.agg [(.dat .str), (.dat .str)]), .arr 5 (.int .u8) false]⟩, (.exit 80000000), ⟨[], []⟩⟩
def AS_span_Prefix : Shape := ⟨[(0, (.dat .str))], []⟩
def AZ_span_Prefix : Shape := ⟨[(0, (.dat tapi_Span))], []⟩
def AE_span_Prefix : Ent := ⟨240, AS_span_Prefix, AZ_span_Prefix, span_Prefix⟩
def AF_span_Prefix : Fx := mkFx Acx (lookupG []) (fun k st => bif Nat.beq k 0 then AL_span_Prefix_0.go (span_Prefix_l0) 0 st else .fail) 0
theorem span_Prefix_b0_eq (s : AL_span_Prefix_0.S.ty.den) : @Eq (Option (AL_span_Prefix_0.S.ty.den ⊕ AL_span_Prefix_0.Out)) (AL_span_Prefix_0.body (AF_span_Prefix) (loopAt (bodyOf Tryz.f240) 0) 0 s).val (span_Prefix_b0 s) := by kernel_rfl
theorem span_Prefix_eq (s : AS_span_Prefix.ty.den) : @Eq (Option AZ_span_Prefix.ty.den) (evFn (AF_span_Prefix) Tryz.f240 AS_span_Prefix AZ_span_Prefix s).val (span_Prefix s) := by kernel_rfl
theorem span_Prefix_hG : GSound Tryz.prog (AF_span_Prefix).Γ := ents_sound trivial
theorem span_Prefix_la0 : LamOK Tryz.prog (AF_span_Prefix) Tryz.f240.ntmps 0 (loopAt (bodyOf Tryz.f240) 0) :=
  lam_sound Atab (span_Prefix_hG) Amixed (L := AL_span_Prefix_0) (f := span_Prefix_l0) (b := span_Prefix_b0) (m := []) (fun _ => rfl) (by kernel_rfl) (by kernel_rfl) trivial (by kernel_rfl) (rfOK_no _ (by kernel_rfl)) (span_Prefix_b0_eq)
theorem span_Prefix_ok : EntOK Tryz.prog (AE_span_Prefix) :=
  fun_sound (F := (AF_span_Prefix)) Atab (span_Prefix_hG) Amixed (fn := Tryz.f240) (m := [(0, loopAt (bodyOf Tryz.f240) 0)]) Tryz.func240 (by kernel_rfl) (by kernel_rfl) (by kernel_rfl) ⟨span_Prefix_la0, trivial⟩ (rfOK_no _ (by kernel_rfl)) (by kernel_rfl) (span_Prefix_eq)
theorem span_Prefix_ox : EntX Tryz.prog (AE_span_Prefix) := (span_Prefix_ok).x (by kernel_rfl)
def AS_msg_move_writes : Shape := ⟨[(0, (.dat tapi_Msg))], []⟩
def AZ_msg_move_writes : Shape := ⟨[(0, (.own tapi_Span 0))], [.arr 62 tapi_Span false]⟩
def AE_msg_move_writes : Ent := ⟨384, AS_msg_move_writes, AZ_msg_move_writes, msg_move_writes⟩
def AF_msg_move_writes : Fx := mkFx Acx (lookupG [AE_span_Prefix]) (fun k st => .fail) 0
theorem msg_move_writes_eq (s : AS_msg_move_writes.ty.den) : @Eq (Option AZ_msg_move_writes.ty.den) (evFn (AF_msg_move_writes) Tryz.f384 AS_msg_move_writes AZ_msg_move_writes s).val (msg_move_writes s) := by kernel_rfl
theorem msg_move_writes_hG : GSound Tryz.prog (AF_msg_move_writes).Γ := ents_sound ⟨(span_Prefix_ox), trivial⟩
theorem msg_move_writes_ok : EntOK Tryz.prog (AE_msg_move_writes) :=
  fun_sound (F := (AF_msg_move_writes)) Atab (msg_move_writes_hG) Amixed (fn := Tryz.f384) (m := []) Tryz.func384 (by kernel_rfl) (by kernel_rfl) (by kernel_rfl) trivial (rfOK_no _ (by kernel_rfl)) (by kernel_rfl) (msg_move_writes_eq)
theorem msg_move_writes_ox : EntX Tryz.prog (AE_msg_move_writes) := (msg_move_writes_ok).x (by kernel_rfl)
def AS_msg_clone_writes : Shape := ⟨[(0, (.dat tapi_Msg))], []⟩
def AZ_msg_clone_writes : Shape := ⟨[(0, (.own tapi_Span 0))], [.arr 62 tapi_Span false]⟩
def AE_msg_clone_writes : Ent := ⟨394, AS_msg_clone_writes, AZ_msg_clone_writes, msg_clone_writes⟩
def AF_msg_clone_writes : Fx := mkFx Acx (lookupG [AE_span_Prefix]) (fun k st => .fail) 0
theorem msg_clone_writes_eq (s : AS_msg_clone_writes.ty.den) : @Eq (Option AZ_msg_clone_writes.ty.den) (evFn (AF_msg_clone_writes) Tryz.f394 AS_msg_clone_writes AZ_msg_clone_writes s).val (msg_clone_writes s) := by kernel_rfl
theorem msg_clone_writes_hG : GSound Tryz.prog (AF_msg_clone_writes).Γ := ents_sound ⟨(span_Prefix_ox), trivial⟩
theorem msg_clone_writes_ok : EntOK Tryz.prog (AE_msg_clone_writes) :=
  fun_sound (F := (AF_msg_clone_writes)) Atab (msg_clone_writes_hG) Amixed (fn := Tryz.f394) (m := []) Tryz.func394 (by kernel_rfl) (by kernel_rfl) (by kernel_rfl) trivial (rfOK_no _ (by kernel_rfl)) (by kernel_rfl) (msg_clone_writes_eq)
theorem msg_clone_writes_ox : EntX Tryz.prog (AE_msg_clone_writes) := (msg_clone_writes_ok).x (by kernel_rfl)
def AS_msg_stamp_writes : Shape := ⟨[(0, (.dat tapi_Msg))], []⟩
def AZ_msg_stamp_writes : Shape := ⟨[(0, (.own tapi_Span 0))], [.arr 62 tapi_Span false]⟩
def AE_msg_stamp_writes : Ent := ⟨400, AS_msg_stamp_writes, AZ_msg_stamp_writes, msg_stamp_writes⟩
def AF_msg_stamp_writes : Fx := mkFx Acx (lookupG []) (fun k st => .fail) 0
theorem msg_stamp_writes_eq (s : AS_msg_stamp_writes.ty.den) : @Eq (Option AZ_msg_stamp_writes.ty.den) (evFn (AF_msg_stamp_writes) Tryz.f400 AS_msg_stamp_writes AZ_msg_stamp_writes s).val (msg_stamp_writes s) := by kernel_rfl
theorem msg_stamp_writes_hG : GSound Tryz.prog (AF_msg_stamp_writes).Γ := ents_sound trivial
theorem msg_stamp_writes_ok : EntOK Tryz.prog (AE_msg_stamp_writes) :=
  fun_sound (F := (AF_msg_stamp_writes)) Atab (msg_stamp_writes_hG) Amixed (fn := Tryz.f400) (m := []) Tryz.func400 (by kernel_rfl) (by kernel_rfl) (by kernel_rfl) trivial (rfOK_no _ (by kernel_rfl)) (by kernel_rfl) (msg_stamp_writes_eq)
theorem msg_stamp_writes_ox : EntX Tryz.prog (AE_msg_stamp_writes) := (msg_stamp_writes_ok).x (by kernel_rfl)
def AS_msg_Writes : Shape := ⟨[(0, (.dat tapi_Msg))], []⟩
def AZ_msg_Writes : Shape := ⟨[(0, (.own tapi_Span 0))], [.arr 62 tapi_Span false]⟩
def AE_msg_Writes : Ent := ⟨63, AS_msg_Writes, AZ_msg_Writes, msg_Writes⟩
noncomputable def AF_msg_Writes : Fx := mkFx Acx (inlG Acx (lookupG [AE_msg_put_writes, AE_msg_del_writes, AE_msg_drop_writes, AE_msg_move_writes, AE_msg_clone_writes, AE_msg_stamp_writes]) 117 Tryz.f117 (lookupG [AE_msg_put_writes, AE_msg_del_writes, AE_msg_drop_writes, AE_msg_move_writes, AE_msg_clone_writes, AE_msg_stamp_writes])) (fun k st => .fail) 0
theorem msg_Writes_eq (s : AS_msg_Writes.ty.den) : @Eq (Option AZ_msg_Writes.ty.den) (evFn (AF_msg_Writes) Tryz.f63 AS_msg_Writes AZ_msg_Writes s).val (msg_Writes s) := by kernel_rfl
theorem msg_Writes_hG : GSound Tryz.prog (AF_msg_Writes).Γ := addG_sound (by kernel_rfl) (inl_sound (F := (mkFx Acx (lookupG [AE_msg_put_writes, AE_msg_del_writes, AE_msg_drop_writes, AE_msg_move_writes, AE_msg_clone_writes, AE_msg_stamp_writes]) (fun _ _ => .fail) 0)) Atab (ents_sound ⟨(msg_put_writes_ox), (msg_del_writes_ox), (msg_drop_writes_ox), (msg_move_writes_ox), (msg_clone_writes_ox), (msg_stamp_writes_ox), trivial⟩) Amixed Tryz.func117 (by kernel_rfl) (by kernel_rfl) (by kernel_rfl)) (ents_sound ⟨(msg_put_writes_ox), (msg_del_writes_ox), (msg_drop_writes_ox), (msg_move_writes_ox), (msg_clone_writes_ox), (msg_stamp_writes_ox), trivial⟩)
theorem msg_Writes_ok : EntOK Tryz.prog (AE_msg_Writes) :=
  fun_sound (F := (AF_msg_Writes)) Atab (msg_Writes_hG) Amixed (fn := Tryz.f63) (m := []) Tryz.func63 (by kernel_rfl) (by kernel_rfl) (by kernel_rfl) trivial (rfOK_no _ (by kernel_rfl)) (by kernel_rfl) (msg_Writes_eq)
theorem msg_Writes_ox : EntX Tryz.prog (AE_msg_Writes) := (msg_Writes_ok).x (by kernel_rfl)
def AS_cost_WeightC1C1C1 : Shape := ⟨[(0, (.dat tapi_Span)), (1, (.ptr 0 tapi_Span 0 []))], [.box 62 tapi_Span (.dat tapi_Span)]⟩
def AZ_cost_WeightC1C1C1 : Shape := ⟨[(0, (.dat .bool))], [.box 62 tapi_Span (.dat tapi_Span)]⟩
def AE_cost_WeightC1C1C1 : Ent := ⟨64, AS_cost_WeightC1C1C1, AZ_cost_WeightC1C1C1, cost_WeightC1C1C1⟩
def AF_cost_WeightC1C1C1 : Fx := mkFx Acx (lookupG [AE_span_Empty, AE_span_Meet]) (fun k st => .fail) 1
theorem cost_WeightC1C1C1_eq (s : AS_cost_WeightC1C1C1.ty.den) : @Eq (Option AZ_cost_WeightC1C1C1.ty.den) (evFn (AF_cost_WeightC1C1C1) Tryz.f64 AS_cost_WeightC1C1C1 AZ_cost_WeightC1C1C1 s).val (cost_WeightC1C1C1 s) := by kernel_rfl
theorem cost_WeightC1C1C1_hG : GSound Tryz.prog (AF_cost_WeightC1C1C1).Γ := ents_sound ⟨(span_Empty_ox), (span_Meet_ox), trivial⟩
theorem cost_WeightC1C1C1_ok : EntOK Tryz.prog (AE_cost_WeightC1C1C1) :=
  fun_sound (F := (AF_cost_WeightC1C1C1)) Atab (cost_WeightC1C1C1_hG) Amixed (fn := Tryz.f64) (m := []) Tryz.func64 (by kernel_rfl) (by kernel_rfl) (by kernel_rfl) trivial (rfOK_no _ (by kernel_rfl)) (by kernel_rfl) (cost_WeightC1C1C1_eq)
theorem cost_WeightC1C1C1_ox : EntX Tryz.prog (AE_cost_WeightC1C1C1) := (cost_WeightC1C1C1_ok).x (by kernel_rfl)
def AL_slices_IndexFunc_api_Span_api_Span_0 : Lp := ⟨⟨[(0, (.dat (.list tapi_Span))), (1, (.fn 64 [] [(.ptr 0 tapi_Span 0 [])])), (7, (.dat (.int .i64))), (8, (.dat (.int .i64)))], [.box 62 tapi_Span (.dat tapi_Span)]⟩, .ret, ⟨[(4, (.dat (.int .i64)))], [.box 62 tapi_Span (.dat tapi_Span)]⟩, (.exit 0), ⟨[], [.box 62 tapi_Span (.dat tapi_Span)]⟩⟩
def AS_slices_IndexFunc_api_Span_api_Span : Shape := ⟨[(0, (.dat (.list tapi_Span))), (1, (.fn 64 [] [(.ptr 0 tapi_Span 0 [])]))], [.box 62 tapi_Span (.dat tapi_Span)]⟩
def AZ_slices_IndexFunc_api_Span_api_Span : Shape := ⟨[(0, (.dat (.int .i64)))], [.box 62 tapi_Span (.dat tapi_Span)]⟩
def AE_slices_IndexFunc_api_Span_api_Span : Ent := ⟨116, AS_slices_IndexFunc_api_Span_api_Span, AZ_slices_IndexFunc_api_Span_api_Span, slices_IndexFunc_api_Span_api_Span⟩
def AF_slices_IndexFunc_api_Span_api_Span : Fx := mkFx Acx (lookupG [AE_cost_WeightC1C1C1]) (fun k st => bif Nat.beq k 0 then AL_slices_IndexFunc_api_Span_api_Span_0.go (slices_IndexFunc_api_Span_api_Span_l0) 1 st else .fail) 1
theorem slices_IndexFunc_api_Span_api_Span_b0_eq (s : AL_slices_IndexFunc_api_Span_api_Span_0.S.ty.den) : @Eq (Option (AL_slices_IndexFunc_api_Span_api_Span_0.S.ty.den ⊕ AL_slices_IndexFunc_api_Span_api_Span_0.Out)) (AL_slices_IndexFunc_api_Span_api_Span_0.body (AF_slices_IndexFunc_api_Span_api_Span) (loopAt (bodyOf Tryz.f116) 0) 0 s).val (slices_IndexFunc_api_Span_api_Span_b0 s) := by kernel_rfl
theorem slices_IndexFunc_api_Span_api_Span_eq (s : AS_slices_IndexFunc_api_Span_api_Span.ty.den) : @Eq (Option AZ_slices_IndexFunc_api_Span_api_Span.ty.den) (evFn (AF_slices_IndexFunc_api_Span_api_Span) Tryz.f116 AS_slices_IndexFunc_api_Span_api_Span AZ_slices_IndexFunc_api_Span_api_Span s).val (slices_IndexFunc_api_Span_api_Span s) := by kernel_rfl
theorem slices_IndexFunc_api_Span_api_Span_hG : GSound Tryz.prog (AF_slices_IndexFunc_api_Span_api_Span).Γ := ents_sound ⟨(cost_WeightC1C1C1_ox), trivial⟩
theorem slices_IndexFunc_api_Span_api_Span_la0 : LamOK Tryz.prog (AF_slices_IndexFunc_api_Span_api_Span) Tryz.f116.ntmps 0 (loopAt (bodyOf Tryz.f116) 0) :=
  lam_sound Atab (slices_IndexFunc_api_Span_api_Span_hG) Amixed (L := AL_slices_IndexFunc_api_Span_api_Span_0) (f := slices_IndexFunc_api_Span_api_Span_l0) (b := slices_IndexFunc_api_Span_api_Span_b0) (m := []) (fun _ => rfl) (by kernel_rfl) (by kernel_rfl) trivial (by kernel_rfl) (rfOK_no _ (by kernel_rfl)) (slices_IndexFunc_api_Span_api_Span_b0_eq)
theorem slices_IndexFunc_api_Span_api_Span_ok : EntOK Tryz.prog (AE_slices_IndexFunc_api_Span_api_Span) :=
  fun_sound (F := (AF_slices_IndexFunc_api_Span_api_Span)) Atab (slices_IndexFunc_api_Span_api_Span_hG) Amixed (fn := Tryz.f116) (m := [(0, loopAt (bodyOf Tryz.f116) 0)]) Tryz.func116 (by kernel_rfl) (by kernel_rfl) (by kernel_rfl) ⟨slices_IndexFunc_api_Span_api_Span_la0, trivial⟩ (rfOK_no _ (by kernel_rfl)) (by kernel_rfl) (slices_IndexFunc_api_Span_api_Span_eq)
theorem slices_IndexFunc_api_Span_api_Span_ox : EntX Tryz.prog (AE_slices_IndexFunc_api_Span_api_Span) := (slices_IndexFunc_api_Span_api_Span_ok).x (by kernel_rfl)
def AS_slices_ContainsFunc_api_Span_api_Span : Shape := ⟨[(0, (.dat (.list tapi_Span))), (1, (.fn 64 [] [(.ptr 0 tapi_Span 0 [])]))], [.box 62 tapi_Span (.dat tapi_Span)]⟩
def AZ_slices_ContainsFunc_api_Span_api_Span : Shape := ⟨[(0, (.dat .bool))], [.box 62 tapi_Span (.dat tapi_Span)]⟩
def AE_slices_ContainsFunc_api_Span_api_Span : Ent := ⟨62, AS_slices_ContainsFunc_api_Span_api_Span, AZ_slices_ContainsFunc_api_Span_api_Span, slices_ContainsFunc_api_Span_api_Span⟩
def AF_slices_ContainsFunc_api_Span_api_Span : Fx := mkFx Acx (lookupG [AE_slices_IndexFunc_api_Span_api_Span]) (fun k st => .fail) 1
theorem slices_ContainsFunc_api_Span_api_Span_eq (s : AS_slices_ContainsFunc_api_Span_api_Span.ty.den) : @Eq (Option AZ_slices_ContainsFunc_api_Span_api_Span.ty.den) (evFn (AF_slices_ContainsFunc_api_Span_api_Span) Tryz.f62 AS_slices_ContainsFunc_api_Span_api_Span AZ_slices_ContainsFunc_api_Span_api_Span s).val (slices_ContainsFunc_api_Span_api_Span s) := by kernel_rfl
theorem slices_ContainsFunc_api_Span_api_Span_hG : GSound Tryz.prog (AF_slices_ContainsFunc_api_Span_api_Span).Γ := ents_sound ⟨(slices_IndexFunc_api_Span_api_Span_ox), trivial⟩
theorem slices_ContainsFunc_api_Span_api_Span_ok : EntOK Tryz.prog (AE_slices_ContainsFunc_api_Span_api_Span) :=
  fun_sound (F := (AF_slices_ContainsFunc_api_Span_api_Span)) Atab (slices_ContainsFunc_api_Span_api_Span_hG) Amixed (fn := Tryz.f62) (m := []) Tryz.func62 (by kernel_rfl) (by kernel_rfl) (by kernel_rfl) trivial (rfOK_no _ (by kernel_rfl)) (by kernel_rfl) (slices_ContainsFunc_api_Span_api_Span_eq)
theorem slices_ContainsFunc_api_Span_api_Span_ox : EntX Tryz.prog (AE_slices_ContainsFunc_api_Span_api_Span) := (slices_ContainsFunc_api_Span_api_Span_ok).x (by kernel_rfl)
def AS_cost_WeightC1C1 : Shape := ⟨[(0, (.dat tapi_Msg)), (1, (.ptr 0 tapi_Span 0 []))], [.box 62 tapi_Span (.dat tapi_Span)]⟩
def AZ_cost_WeightC1C1 : Shape := ⟨[(0, (.dat .bool))], [.box 62 tapi_Span (.dat tapi_Span)]⟩
def AE_cost_WeightC1C1 : Ent := ⟨61, AS_cost_WeightC1C1, AZ_cost_WeightC1C1, cost_WeightC1C1⟩
def AF_cost_WeightC1C1 : Fx := mkFx Acx (lookupG [AE_msg_Writes, AE_slices_ContainsFunc_api_Span_api_Span]) (fun k st => .fail) 1
theorem cost_WeightC1C1_eq (s : AS_cost_WeightC1C1.ty.den) : @Eq (Option AZ_cost_WeightC1C1.ty.den) (evFn (AF_cost_WeightC1C1) Tryz.f61 AS_cost_WeightC1C1 AZ_cost_WeightC1C1 s).val (cost_WeightC1C1 s) := by kernel_rfl
theorem cost_WeightC1C1_hG : GSound Tryz.prog (AF_cost_WeightC1C1).Γ := ents_sound ⟨(msg_Writes_ox), (slices_ContainsFunc_api_Span_api_Span_ox), trivial⟩
theorem cost_WeightC1C1_ok : EntOK Tryz.prog (AE_cost_WeightC1C1) :=
  fun_sound (F := (AF_cost_WeightC1C1)) Atab (cost_WeightC1C1_hG) Amixed (fn := Tryz.f61) (m := []) Tryz.func61 (by kernel_rfl) (by kernel_rfl) (by kernel_rfl) trivial (rfOK_no _ (by kernel_rfl)) (by kernel_rfl) (cost_WeightC1C1_eq)
theorem cost_WeightC1C1_ox : EntX Tryz.prog (AE_cost_WeightC1C1) := (cost_WeightC1C1_ok).x (by kernel_rfl)
def AL_slices_IndexFunc_api_Msg_api_Msg_0 : Lp := ⟨⟨[(0, (.own tapi_Msg 0)), (1, (.fn 61 [] [(.ptr 1 tapi_Span 0 [])])), (7, (.dat (.int .i64))), (8, (.dat (.int .i64)))], [.arr 64 tapi_Msg false, .box 62 tapi_Span (.dat tapi_Span)]⟩, .ret, ⟨[(4, (.dat (.int .i64)))], [.arr 64 tapi_Msg false, .box 62 tapi_Span (.dat tapi_Span)]⟩, (.exit 0), ⟨[], [.arr 64 tapi_Msg false, .box 62 tapi_Span (.dat tapi_Span)]⟩⟩
def AS_slices_IndexFunc_api_Msg_api_Msg : Shape := ⟨[(0, (.own tapi_Msg 0)), (1, (.fn 61 [] [(.ptr 1 tapi_Span 0 [])]))], [.arr 64 tapi_Msg false, .box 62 tapi_Span (.dat tapi_Span)]⟩
def AZ_slices_IndexFunc_api_Msg_api_Msg : Shape := ⟨[(0, (.dat (.int .i64)))], [.arr 64 tapi_Msg false, .box 62 tapi_Span (.dat tapi_Span)]⟩
def AE_slices_IndexFunc_api_Msg_api_Msg : Ent := ⟨115, AS_slices_IndexFunc_api_Msg_api_Msg, AZ_slices_IndexFunc_api_Msg_api_Msg, slices_IndexFunc_api_Msg_api_Msg⟩
def AF_slices_IndexFunc_api_Msg_api_Msg : Fx := mkFx Acx (lookupG [AE_cost_WeightC1C1]) (fun k st => bif Nat.beq k 0 then AL_slices_IndexFunc_api_Msg_api_Msg_0.go (slices_IndexFunc_api_Msg_api_Msg_l0) 2 st else .fail) 2
theorem slices_IndexFunc_api_Msg_api_Msg_b0_eq (s : AL_slices_IndexFunc_api_Msg_api_Msg_0.S.ty.den) : @Eq (Option (AL_slices_IndexFunc_api_Msg_api_Msg_0.S.ty.den ⊕ AL_slices_IndexFunc_api_Msg_api_Msg_0.Out)) (AL_slices_IndexFunc_api_Msg_api_Msg_0.body (AF_slices_IndexFunc_api_Msg_api_Msg) (loopAt (bodyOf Tryz.f115) 0) 0 s).val (slices_IndexFunc_api_Msg_api_Msg_b0 s) := by kernel_rfl
theorem slices_IndexFunc_api_Msg_api_Msg_eq (s : AS_slices_IndexFunc_api_Msg_api_Msg.ty.den) : @Eq (Option AZ_slices_IndexFunc_api_Msg_api_Msg.ty.den) (evFn (AF_slices_IndexFunc_api_Msg_api_Msg) Tryz.f115 AS_slices_IndexFunc_api_Msg_api_Msg AZ_slices_IndexFunc_api_Msg_api_Msg s).val (slices_IndexFunc_api_Msg_api_Msg s) := by kernel_rfl
theorem slices_IndexFunc_api_Msg_api_Msg_hG : GSound Tryz.prog (AF_slices_IndexFunc_api_Msg_api_Msg).Γ := ents_sound ⟨(cost_WeightC1C1_ox), trivial⟩
theorem slices_IndexFunc_api_Msg_api_Msg_la0 : LamOK Tryz.prog (AF_slices_IndexFunc_api_Msg_api_Msg) Tryz.f115.ntmps 0 (loopAt (bodyOf Tryz.f115) 0) :=
  lam_sound Atab (slices_IndexFunc_api_Msg_api_Msg_hG) Amixed (L := AL_slices_IndexFunc_api_Msg_api_Msg_0) (f := slices_IndexFunc_api_Msg_api_Msg_l0) (b := slices_IndexFunc_api_Msg_api_Msg_b0) (m := []) (fun _ => rfl) (by kernel_rfl) (by kernel_rfl) trivial (by kernel_rfl) (rfOK_no _ (by kernel_rfl)) (slices_IndexFunc_api_Msg_api_Msg_b0_eq)
theorem slices_IndexFunc_api_Msg_api_Msg_ok : EntOK Tryz.prog (AE_slices_IndexFunc_api_Msg_api_Msg) :=
  fun_sound (F := (AF_slices_IndexFunc_api_Msg_api_Msg)) Atab (slices_IndexFunc_api_Msg_api_Msg_hG) Amixed (fn := Tryz.f115) (m := [(0, loopAt (bodyOf Tryz.f115) 0)]) Tryz.func115 (by kernel_rfl) (by kernel_rfl) (by kernel_rfl) ⟨slices_IndexFunc_api_Msg_api_Msg_la0, trivial⟩ (rfOK_no _ (by kernel_rfl)) (by kernel_rfl) (slices_IndexFunc_api_Msg_api_Msg_eq)
theorem slices_IndexFunc_api_Msg_api_Msg_ox : EntX Tryz.prog (AE_slices_IndexFunc_api_Msg_api_Msg) := (slices_IndexFunc_api_Msg_api_Msg_ok).x (by kernel_rfl)
def AL_slices_DeleteFunc_api_Msg_api_Msg_0 : Lp := ⟨⟨[(0, (.own tapi_Msg 0)), (1, (.fn 61 [] [(.ptr 1 tapi_Span 0 [])])), (5, (.dat (.int .i64))), (6, (.dat (.int .i64)))], [.arr 64 tapi_Msg false, .box 62 tapi_Span (.dat tapi_Span)]⟩, (.exit 0), ⟨[(0, (.own tapi_Msg 0)), (5, (.dat (.int .i64)))], [.arr 64 tapi_Msg false, .box 62 tapi_Span (.dat tapi_Span)]⟩, (.exit 80000000), ⟨[], []⟩⟩
def AS_slices_DeleteFunc_api_Msg_api_Msg : Shape := ⟨[(0, (.own tapi_Msg 0)), (1, (.fn 61 [] [(.ptr 1 tapi_Span 0 [])]))], [.arr 64 tapi_Msg false, .box 62 tapi_Span (.dat tapi_Span)]⟩
def AZ_slices_DeleteFunc_api_Msg_api_Msg : Shape := ⟨[(0, (.own tapi_Msg 2))], [.gone, .box 62 tapi_Span (.dat tapi_Span), .arr 64 tapi_Msg false]⟩
def AE_slices_DeleteFunc_api_Msg_api_Msg : Ent := ⟨59, AS_slices_DeleteFunc_api_Msg_api_Msg, AZ_slices_DeleteFunc_api_Msg_api_Msg, slices_DeleteFunc_api_Msg_api_Msg⟩
def AF_slices_DeleteFunc_api_Msg_api_Msg : Fx := mkFx Acx (lookupG [AE_cost_WeightC1C1, AE_slices_IndexFunc_api_Msg_api_Msg]) (fun k st => bif Nat.beq k 0 then AL_slices_DeleteFunc_api_Msg_api_Msg_0.go (slices_DeleteFunc_api_Msg_api_Msg_l0) 2 st else .fail) 2
theorem slices_DeleteFunc_api_Msg_api_Msg_b0_eq (s : AL_slices_DeleteFunc_api_Msg_api_Msg_0.S.ty.den) : @Eq (Option (AL_slices_DeleteFunc_api_Msg_api_Msg_0.S.ty.den ⊕ AL_slices_DeleteFunc_api_Msg_api_Msg_0.Out)) (AL_slices_DeleteFunc_api_Msg_api_Msg_0.body (AF_slices_DeleteFunc_api_Msg_api_Msg) (loopAt (bodyOf Tryz.f59) 0) 0 s).val (slices_DeleteFunc_api_Msg_api_Msg_b0 s) := by kernel_rfl
theorem slices_DeleteFunc_api_Msg_api_Msg_eq (s : AS_slices_DeleteFunc_api_Msg_api_Msg.ty.den) : @Eq (Option AZ_slices_DeleteFunc_api_Msg_api_Msg.ty.den) (evFn (AF_slices_DeleteFunc_api_Msg_api_Msg) Tryz.f59 AS_slices_DeleteFunc_api_Msg_api_Msg AZ_slices_DeleteFunc_api_Msg_api_Msg s).val (slices_DeleteFunc_api_Msg_api_Msg s) := by kernel_rfl
theorem slices_DeleteFunc_api_Msg_api_Msg_hG : GSound Tryz.prog (AF_slices_DeleteFunc_api_Msg_api_Msg).Γ := ents_sound ⟨(cost_WeightC1C1_ox), (slices_IndexFunc_api_Msg_api_Msg_ox), trivial⟩
theorem slices_DeleteFunc_api_Msg_api_Msg_la0 : LamOK Tryz.prog (AF_slices_DeleteFunc_api_Msg_api_Msg) Tryz.f59.ntmps 0 (loopAt (bodyOf Tryz.f59) 0) :=
  lam_sound Atab (slices_DeleteFunc_api_Msg_api_Msg_hG) Amixed (L := AL_slices_DeleteFunc_api_Msg_api_Msg_0) (f := slices_DeleteFunc_api_Msg_api_Msg_l0) (b := slices_DeleteFunc_api_Msg_api_Msg_b0) (m := []) (fun _ => rfl) (by kernel_rfl) (by kernel_rfl) trivial (by kernel_rfl) (rfOK_no _ (by kernel_rfl)) (slices_DeleteFunc_api_Msg_api_Msg_b0_eq)
theorem slices_DeleteFunc_api_Msg_api_Msg_ok : EntOK Tryz.prog (AE_slices_DeleteFunc_api_Msg_api_Msg) :=
  fun_sound (F := (AF_slices_DeleteFunc_api_Msg_api_Msg)) Atab (slices_DeleteFunc_api_Msg_api_Msg_hG) Amixed (fn := Tryz.f59) (m := [(0, loopAt (bodyOf Tryz.f59) 0)]) Tryz.func59 (by kernel_rfl) (by kernel_rfl) (by kernel_rfl) ⟨slices_DeleteFunc_api_Msg_api_Msg_la0, trivial⟩ (rfOK_no _ (by kernel_rfl)) (by kernel_rfl) (slices_DeleteFunc_api_Msg_api_Msg_eq)
theorem slices_DeleteFunc_api_Msg_api_Msg_ox : EntX Tryz.prog (AE_slices_DeleteFunc_api_Msg_api_Msg) := (slices_DeleteFunc_api_Msg_api_Msg_ok).x (by kernel_rfl)
def AL_cost_WeightC1_0 : Lp := ⟨⟨[(4, (.ptr 1 (.int .i64) 0 [])), (5, (.ptr 2 .opq 0 [])), (10, (.ptr 3 tapi_Node 0 [])), (12, (.own tapi_Msg 4)), (34, (.own tapi_Span 5)), (35, (.dat (.int .i64))), (36, (.dat (.int .i64)))], [.box 36 tapi_Tree (.dat tapi_Tree), .box 3 (.int .i64) (.dat (.int .i64)), .box 112 .opq (.fn 55 [] [(.ptr 0 tapi_Tree 0 []), (.ptr 1 (.int .i64) 0 []), (.ptr 2 .opq 0 [])]), .box 98 tapi_Node (.dat tapi_Node), .arr 64 tapi_Msg true, .arr 62 tapi_Span false]⟩, .ret, ⟨[(9, (.dat (.int .i64)))], [.box 36 tapi_Tree (.dat tapi_Tree), .box 3 (.int .i64) (.dat (.int .i64)), .box 112 .opq (.fn 55 [] [(.ptr 0 tapi_Tree 0 []), (.ptr 1 (.int .i64) 0 []), (.ptr 2 .opq 0 [])])]⟩, (.exit 0), ⟨[], [.box 36 tapi_Tree (.dat tapi_Tree), .box 3 (.int .i64) (.dat (.int .i64)), .box 112 .opq (.fn 55 [] [(.ptr 0 tapi_Tree 0 []), (.ptr 1 (.int .i64) 0 []), (.ptr 2 .opq 0 [])])]⟩⟩
def AE_cost_WeightC1 : Ent := ⟨55, AS_cost_WeightC1, AZ_cost_WeightC1, cost_WeightC1⟩
def AF_cost_WeightC1 (cost_WeightC1_r : ((Int) × (api_Span) × (List (api_Msg)) × (api_Tree) × (Int) × Unit) → Option ((Int) × (api_Tree) × (Int) × Unit)) : Fx := mkFx Acx (lookupG [(AE_cost_WeightC1_r cost_WeightC1_r), AE_pool_Get, AE_slices_Concat_api_Msg_api_Msg, AE_node_Spans, AE_slices_Clone_api_Msg_api_Msg, AE_slices_DeleteFunc_api_Msg_api_Msg]) (fun k st => bif Nat.beq k 0 then AL_cost_WeightC1_0.go (cost_WeightC1_l0 cost_WeightC1_r) 3 st else .fail) 3
theorem cost_WeightC1_b0_eq (cost_WeightC1_r : ((Int) × (api_Span) × (List (api_Msg)) × (api_Tree) × (Int) × Unit) → Option ((Int) × (api_Tree) × (Int) × Unit)) (s : AL_cost_WeightC1_0.S.ty.den) : @Eq (Option (AL_cost_WeightC1_0.S.ty.den ⊕ AL_cost_WeightC1_0.Out)) (AL_cost_WeightC1_0.body (AF_cost_WeightC1 cost_WeightC1_r) (loopAt (bodyOf Tryz.f55) 0) 0 s).val (cost_WeightC1_b0 cost_WeightC1_r s) := by kernel_rfl
theorem cost_WeightC1_eq (cost_WeightC1_r : ((Int) × (api_Span) × (List (api_Msg)) × (api_Tree) × (Int) × Unit) → Option ((Int) × (api_Tree) × (Int) × Unit)) (s : AS_cost_WeightC1.ty.den) : @Eq (Option AZ_cost_WeightC1.ty.den) (evFn (AF_cost_WeightC1 cost_WeightC1_r) Tryz.f55 AS_cost_WeightC1 AZ_cost_WeightC1 s).val (cost_WeightC1_step cost_WeightC1_r s) := by kernel_rfl
theorem cost_WeightC1_hG (cost_WeightC1_r : ((Int) × (api_Span) × (List (api_Msg)) × (api_Tree) × (Int) × Unit) → Option ((Int) × (api_Tree) × (Int) × Unit)) (cost_WeightC1_r_ok : EntOK Tryz.prog (AE_cost_WeightC1_r cost_WeightC1_r)) : GSound Tryz.prog (AF_cost_WeightC1 cost_WeightC1_r).Γ := ents_sound ⟨(cost_WeightC1_r_ok.x (by kernel_rfl)), (pool_Get_ox), (slices_Concat_api_Msg_api_Msg_ox), (node_Spans_ox), (slices_Clone_api_Msg_api_Msg_ox), (slices_DeleteFunc_api_Msg_api_Msg_ox), trivial⟩
theorem cost_WeightC1_la0 (cost_WeightC1_r : ((Int) × (api_Span) × (List (api_Msg)) × (api_Tree) × (Int) × Unit) → Option ((Int) × (api_Tree) × (Int) × Unit)) (cost_WeightC1_r_ok : EntOK Tryz.prog (AE_cost_WeightC1_r cost_WeightC1_r)) : LamOK Tryz.prog (AF_cost_WeightC1 cost_WeightC1_r) Tryz.f55.ntmps 0 (loopAt (bodyOf Tryz.f55) 0) :=
  lam_sound Atab (cost_WeightC1_hG cost_WeightC1_r cost_WeightC1_r_ok) Amixed (L := AL_cost_WeightC1_0) (f := cost_WeightC1_l0 cost_WeightC1_r) (b := cost_WeightC1_b0 cost_WeightC1_r) (m := []) (fun _ => rfl) (by kernel_rfl) (by kernel_rfl) trivial (by kernel_rfl) (rfOK_no _ (by kernel_rfl)) (cost_WeightC1_b0_eq cost_WeightC1_r)
theorem cost_WeightC1_step_ok (cost_WeightC1_r : ((Int) × (api_Span) × (List (api_Msg)) × (api_Tree) × (Int) × Unit) → Option ((Int) × (api_Tree) × (Int) × Unit)) (cost_WeightC1_r_ok : EntOK Tryz.prog (AE_cost_WeightC1_r cost_WeightC1_r)) : EntOK Tryz.prog ⟨55, AS_cost_WeightC1, AZ_cost_WeightC1, cost_WeightC1_step cost_WeightC1_r⟩ :=
  fun_sound (F := (AF_cost_WeightC1 cost_WeightC1_r)) Atab (cost_WeightC1_hG cost_WeightC1_r cost_WeightC1_r_ok) Amixed (fn := Tryz.f55) (m := [(0, loopAt (bodyOf Tryz.f55) 0)]) Tryz.func55 (by kernel_rfl) (by kernel_rfl) (by kernel_rfl) ⟨cost_WeightC1_la0 cost_WeightC1_r cost_WeightC1_r_ok, trivial⟩ (rfOK_no _ (by kernel_rfl)) (by kernel_rfl) (cost_WeightC1_eq cost_WeightC1_r)
theorem cost_WeightC1_fuel_ok : ∀ n, EntOK Tryz.prog ⟨55, AS_cost_WeightC1, AZ_cost_WeightC1, cost_WeightC1_fuel n⟩
  | 0 => ent_none
  | n + 1 => cost_WeightC1_step_ok _ (cost_WeightC1_fuel_ok n)
theorem cost_WeightC1_ok : EntOK Tryz.prog (AE_cost_WeightC1) := cost_WeightC1_fuel_ok huge
theorem cost_WeightC1_ox : EntX Tryz.prog (AE_cost_WeightC1) := (cost_WeightC1_ok).x (by kernel_rfl)
def AS_cost_Weight : Shape := ⟨[(0, (.dat tapi_Tree))], []⟩
def AZ_cost_Weight : Shape := ⟨[(0, (.dat (.int .i64))), (1, (.dat (.int .i64)))], []⟩
def AE_cost_Weight : Ent := ⟨18, AS_cost_Weight, AZ_cost_Weight, cost_Weight⟩
def AF_cost_Weight : Fx := mkFx Acx (lookupG [AE_cost_WeightC1]) (fun k st => .fail) 0
theorem cost_Weight_eq (s : AS_cost_Weight.ty.den) : @Eq (Option AZ_cost_Weight.ty.den) (evFn (AF_cost_Weight) Tryz.f18 AS_cost_Weight AZ_cost_Weight s).val (cost_Weight s) := by kernel_rfl
theorem cost_Weight_hG : GSound Tryz.prog (AF_cost_Weight).Γ := ents_sound ⟨(cost_WeightC1_ox), trivial⟩
theorem cost_Weight_ok : EntOK Tryz.prog (AE_cost_Weight) :=
  fun_sound (F := (AF_cost_Weight)) Atab (cost_Weight_hG) Amixed (fn := Tryz.f18) (m := []) Tryz.func18 (by kernel_rfl) (by kernel_rfl) (by kernel_rfl) trivial (rfOK_no _ (by kernel_rfl)) (by kernel_rfl) (cost_Weight_eq)
theorem cost_Weight_ox : EntX Tryz.prog (AE_cost_Weight) := (cost_Weight_ok).x (by kernel_rfl)
def AS_tree_leaf : Shape := ⟨[(0, (.dat tapi_Node))], []⟩
def AZ_tree_leaf : Shape := ⟨[(0, (.dat .bool))], []⟩
def AE_tree_leaf : Ent := ⟨71, AS_tree_leaf, AZ_tree_leaf, tree_leaf⟩
def AF_tree_leaf : Fx := mkFx Acx (lookupG []) (fun k st => .fail) 0
theorem tree_leaf_eq (s : AS_tree_leaf.ty.den) : @Eq (Option AZ_tree_leaf.ty.den) (evFn (AF_tree_leaf) Tryz.f71 AS_tree_leaf AZ_tree_leaf s).val (tree_leaf s) := by kernel_rfl
theorem tree_leaf_hG : GSound Tryz.prog (AF_tree_leaf).Γ := ents_sound trivial
theorem tree_leaf_ok : EntOK Tryz.prog (AE_tree_leaf) :=
  fun_sound (F := (AF_tree_leaf)) Atab (tree_leaf_hG) Amixed (fn := Tryz.f71) (m := []) Tryz.func71 (by kernel_rfl) (by kernel_rfl) (by kernel_rfl) trivial (rfOK_no _ (by kernel_rfl)) (by kernel_rfl) (tree_leaf_eq)
theorem tree_leaf_ox : EntX Tryz.prog (AE_tree_leaf) := (tree_leaf_ok).x (by kernel_rfl)
def AS_internal_bytealg_CompareString : Shape := ⟨[(0, (.dat .str)), (1, (.dat .str))], []⟩
def AZ_internal_bytealg_CompareString : Shape := ⟨[(0, (.dat (.int .i64)))], []⟩
def AE_internal_bytealg_CompareString : Ent := ⟨233, AS_internal_bytealg_CompareString, AZ_internal_bytealg_CompareString, internal_bytealg_CompareString⟩
set_option maxHeartbeats 1000000 in
theorem internal_bytealg_CompareString_calls (a b : ByteArray) (w : World) : Calls Tryz.prog 233 #[.string a, .string b] w fun e w' => e = .returned (.int .i64 (Lib.compareBytes a.data.toList b.data.toList)) ∧ w' = w := by
  go_enter Tryz.func233, Tryz.ntmps233
  go_wp2
  rw [run_callFunc_extern Tryz.func260 (by kernel_rfl) (by kernel_rfl) (by kernel_rfl) (e := Extern.BytealgCompare.compare) (by kernel_rfl), Lib.run_compareString]
  simp only [Result.andThen]
  rw [Oper.upon_value]
  go_wp2
  go_ret
  exact ⟨rfl, rfl⟩
theorem internal_bytealg_CompareString_ok : EntOK Tryz.prog AE_internal_bytealg_CompareString := ext_ss (g := fun a b => Lib.compareBytes a b) Tryz.func233 (by kernel_rfl) internal_bytealg_CompareString_calls
theorem internal_bytealg_CompareString_ox : EntX Tryz.prog AE_internal_bytealg_CompareString := internal_bytealg_CompareString_ok.x (by kernel_rfl)
def AS_strings_Compare : Shape := ⟨[(0, (.dat .str)), (1, (.dat .str))], []⟩
def AZ_strings_Compare : Shape := ⟨[(0, (.dat (.int .i64)))], []⟩
def AE_strings_Compare : Ent := ⟨178, AS_strings_Compare, AZ_strings_Compare, strings_Compare⟩
def AF_strings_Compare : Fx := mkFx Acx (lookupG [AE_internal_bytealg_CompareString]) (fun k st => .fail) 0
theorem strings_Compare_eq (s : AS_strings_Compare.ty.den) : @Eq (Option AZ_strings_Compare.ty.den) (evFn (AF_strings_Compare) Tryz.f178 AS_strings_Compare AZ_strings_Compare s).val (strings_Compare s) := by kernel_rfl
theorem strings_Compare_hG : GSound Tryz.prog (AF_strings_Compare).Γ := ents_sound ⟨(internal_bytealg_CompareString_ox), trivial⟩
theorem strings_Compare_ok : EntOK Tryz.prog (AE_strings_Compare) :=
  fun_sound (F := (AF_strings_Compare)) Atab (strings_Compare_hG) Amixed (fn := Tryz.f178) (m := []) Tryz.func178 (by kernel_rfl) (by kernel_rfl) (by kernel_rfl) trivial (rfOK_no _ (by kernel_rfl)) (by kernel_rfl) (strings_Compare_eq)
theorem strings_Compare_ox : EntX Tryz.prog (AE_strings_Compare) := (strings_Compare_ok).x (by kernel_rfl)
def AS_table_placeC1 : Shape := ⟨[(0, (.dat tapi_Pair)), (1, (.dat .str))], []⟩
def AZ_table_placeC1 : Shape := ⟨[(0, (.dat (.int .i64)))], []⟩
def AE_table_placeC1 : Ent := ⟨177, AS_table_placeC1, AZ_table_placeC1, table_placeC1⟩
def AF_table_placeC1 : Fx := mkFx Acx (lookupG [AE_strings_Compare]) (fun k st => .fail) 0
theorem table_placeC1_eq (s : AS_table_placeC1.ty.den) : @Eq (Option AZ_table_placeC1.ty.den) (evFn (AF_table_placeC1) Tryz.f177 AS_table_placeC1 AZ_table_placeC1 s).val (table_placeC1 s) := by kernel_rfl
theorem table_placeC1_hG : GSound Tryz.prog (AF_table_placeC1).Γ := ents_sound ⟨(strings_Compare_ox), trivial⟩
theorem table_placeC1_ok : EntOK Tryz.prog (AE_table_placeC1) :=
  fun_sound (F := (AF_table_placeC1)) Atab (table_placeC1_hG) Amixed (fn := Tryz.f177) (m := []) Tryz.func177 (by kernel_rfl) (by kernel_rfl) (by kernel_rfl) trivial (rfOK_no _ (by kernel_rfl)) (by kernel_rfl) (table_placeC1_eq)
theorem table_placeC1_ox : EntX Tryz.prog (AE_table_placeC1) := (table_placeC1_ok).x (by kernel_rfl)
def AL_slices_BinarySearchFunc_api_Pair_api_Pair_string_0 : Lp := ⟨⟨[(0, (.dat (.list tapi_Pair))), (1, (.dat .str)), (2, (.fn 177 [] [])), (8, (.dat (.int .i64))), (9, (.dat (.int .i64))), (10, (.dat (.int .i64)))], []⟩, (.exit 0), ⟨[(0, (.dat (.list tapi_Pair))), (1, (.dat .str)), (2, (.fn 177 [] [])), (8, (.dat (.int .i64))), (9, (.dat (.int .i64)))], []⟩, (.exit 80000000), ⟨[], []⟩⟩
def AS_slices_BinarySearchFunc_api_Pair_api_Pair_string : Shape := ⟨[(0, (.dat (.list tapi_Pair))), (1, (.dat .str)), (2, (.fn 177 [] []))], []⟩
def AZ_slices_BinarySearchFunc_api_Pair_api_Pair_string : Shape := ⟨[(0, (.dat (.int .i64))), (1, (.dat .bool))], []⟩
def AE_slices_BinarySearchFunc_api_Pair_api_Pair_string : Ent := ⟨176, AS_slices_BinarySearchFunc_api_Pair_api_Pair_string, AZ_slices_BinarySearchFunc_api_Pair_api_Pair_string, slices_BinarySearchFunc_api_Pair_api_Pair_string⟩
def AF_slices_BinarySearchFunc_api_Pair_api_Pair_string : Fx := mkFx Acx (lookupG [AE_table_placeC1]) (fun k st => bif Nat.beq k 0 then AL_slices_BinarySearchFunc_api_Pair_api_Pair_string_0.go (slices_BinarySearchFunc_api_Pair_api_Pair_string_l0) 0 st else .fail) 0
theorem slices_BinarySearchFunc_api_Pair_api_Pair_string_b0_eq (s : AL_slices_BinarySearchFunc_api_Pair_api_Pair_string_0.S.ty.den) : @Eq (Option (AL_slices_BinarySearchFunc_api_Pair_api_Pair_string_0.S.ty.den ⊕ AL_slices_BinarySearchFunc_api_Pair_api_Pair_string_0.Out)) (AL_slices_BinarySearchFunc_api_Pair_api_Pair_string_0.body (AF_slices_BinarySearchFunc_api_Pair_api_Pair_string) (loopAt (bodyOf Tryz.f176) 0) 0 s).val (slices_BinarySearchFunc_api_Pair_api_Pair_string_b0 s) := by kernel_rfl
theorem slices_BinarySearchFunc_api_Pair_api_Pair_string_eq (s : AS_slices_BinarySearchFunc_api_Pair_api_Pair_string.ty.den) : @Eq (Option AZ_slices_BinarySearchFunc_api_Pair_api_Pair_string.ty.den) (evFn (AF_slices_BinarySearchFunc_api_Pair_api_Pair_string) Tryz.f176 AS_slices_BinarySearchFunc_api_Pair_api_Pair_string AZ_slices_BinarySearchFunc_api_Pair_api_Pair_string s).val (slices_BinarySearchFunc_api_Pair_api_Pair_string s) := by kernel_rfl
theorem slices_BinarySearchFunc_api_Pair_api_Pair_string_hG : GSound Tryz.prog (AF_slices_BinarySearchFunc_api_Pair_api_Pair_string).Γ := ents_sound ⟨(table_placeC1_ox), trivial⟩
theorem slices_BinarySearchFunc_api_Pair_api_Pair_string_la0 : LamOK Tryz.prog (AF_slices_BinarySearchFunc_api_Pair_api_Pair_string) Tryz.f176.ntmps 0 (loopAt (bodyOf Tryz.f176) 0) :=
  lam_sound Atab (slices_BinarySearchFunc_api_Pair_api_Pair_string_hG) Amixed (L := AL_slices_BinarySearchFunc_api_Pair_api_Pair_string_0) (f := slices_BinarySearchFunc_api_Pair_api_Pair_string_l0) (b := slices_BinarySearchFunc_api_Pair_api_Pair_string_b0) (m := []) (fun _ => rfl) (by kernel_rfl) (by kernel_rfl) trivial (by kernel_rfl) (rfOK_no _ (by kernel_rfl)) (slices_BinarySearchFunc_api_Pair_api_Pair_string_b0_eq)
theorem slices_BinarySearchFunc_api_Pair_api_Pair_string_ok : EntOK Tryz.prog (AE_slices_BinarySearchFunc_api_Pair_api_Pair_string) :=
  fun_sound (F := (AF_slices_BinarySearchFunc_api_Pair_api_Pair_string)) Atab (slices_BinarySearchFunc_api_Pair_api_Pair_string_hG) Amixed (fn := Tryz.f176) (m := [(0, loopAt (bodyOf Tryz.f176) 0)]) Tryz.func176 (by kernel_rfl) (by kernel_rfl) (by kernel_rfl) ⟨slices_BinarySearchFunc_api_Pair_api_Pair_string_la0, trivial⟩ (rfOK_no _ (by kernel_rfl)) (by kernel_rfl) (slices_BinarySearchFunc_api_Pair_api_Pair_string_eq)
theorem slices_BinarySearchFunc_api_Pair_api_Pair_string_ox : EntX Tryz.prog (AE_slices_BinarySearchFunc_api_Pair_api_Pair_string) := (slices_BinarySearchFunc_api_Pair_api_Pair_string_ok).x (by kernel_rfl)
def AS_table_place : Shape := ⟨[(0, (.dat (.list tapi_Pair))), (1, (.dat .str))], []⟩
def AZ_table_place : Shape := ⟨[(0, (.dat (.int .i64))), (1, (.dat .bool))], []⟩
def AE_table_place : Ent := ⟨128, AS_table_place, AZ_table_place, table_place⟩
def AF_table_place : Fx := mkFx Acx (lookupG [AE_slices_BinarySearchFunc_api_Pair_api_Pair_string]) (fun k st => .fail) 0
theorem table_place_eq (s : AS_table_place.ty.den) : @Eq (Option AZ_table_place.ty.den) (evFn (AF_table_place) Tryz.f128 AS_table_place AZ_table_place s).val (table_place s) := by kernel_rfl
theorem table_place_hG : GSound Tryz.prog (AF_table_place).Γ := ents_sound ⟨(slices_BinarySearchFunc_api_Pair_api_Pair_string_ox), trivial⟩
theorem table_place_ok : EntOK Tryz.prog (AE_table_place) :=
  fun_sound (F := (AF_table_place)) Atab (table_place_hG) Amixed (fn := Tryz.f128) (m := []) Tryz.func128 (by kernel_rfl) (by kernel_rfl) (by kernel_rfl) trivial (rfOK_no _ (by kernel_rfl)) (by kernel_rfl) (table_place_eq)
theorem table_place_ox : EntX Tryz.prog (AE_table_place) := (table_place_ok).x (by kernel_rfl)
def AS_table_Find : Shape := ⟨[(0, (.dat (.list tapi_Pair))), (1, (.dat .str))], []⟩
def AZ_table_Find : Shape := ⟨[(0, (.dat tapi_Pair)), (1, (.dat .bool))], []⟩
def AE_table_Find : Ent := ⟨72, AS_table_Find, AZ_table_Find, table_Find⟩
def AF_table_Find : Fx := mkFx Acx (lookupG [AE_table_place]) (fun k st => .fail) 0
theorem table_Find_eq (s : AS_table_Find.ty.den) : @Eq (Option AZ_table_Find.ty.den) (evFn (AF_table_Find) Tryz.f72 AS_table_Find AZ_table_Find s).val (table_Find s) := by kernel_rfl
theorem table_Find_hG : GSound Tryz.prog (AF_table_Find).Γ := ents_sound ⟨(table_place_ox), trivial⟩
theorem table_Find_ok : EntOK Tryz.prog (AE_table_Find) :=
  fun_sound (F := (AF_table_Find)) Atab (table_Find_hG) Amixed (fn := Tryz.f72) (m := []) Tryz.func72 (by kernel_rfl) (by kernel_rfl) (by kernel_rfl) trivial (rfOK_no _ (by kernel_rfl)) (by kernel_rfl) (table_Find_eq)
theorem table_Find_ox : EntX Tryz.prog (AE_table_Find) := (table_Find_ok).x (by kernel_rfl)
def AS_slices_Backward_api_Msg_api_Msg : Shape := ⟨[(0, (.dat (.list tapi_Msg)))], []⟩
def AZ_slices_Backward_api_Msg_api_Msg : Shape := ⟨[(0, (.fn 179 [] [(.ptr 0 (.list tapi_Msg) 0 [])]))], [.box 96 (.list tapi_Msg) (.dat (.list tapi_Msg))]⟩
def AE_slices_Backward_api_Msg_api_Msg : Ent := ⟨129, AS_slices_Backward_api_Msg_api_Msg, AZ_slices_Backward_api_Msg_api_Msg, slices_Backward_api_Msg_api_Msg⟩
def AF_slices_Backward_api_Msg_api_Msg : Fx := mkFx Acx (lookupG []) (fun k st => .fail) 0
theorem slices_Backward_api_Msg_api_Msg_eq (s : AS_slices_Backward_api_Msg_api_Msg.ty.den) : @Eq (Option AZ_slices_Backward_api_Msg_api_Msg.ty.den) (evFn (AF_slices_Backward_api_Msg_api_Msg) Tryz.f129 AS_slices_Backward_api_Msg_api_Msg AZ_slices_Backward_api_Msg_api_Msg s).val (slices_Backward_api_Msg_api_Msg s) := by kernel_rfl
theorem slices_Backward_api_Msg_api_Msg_hG : GSound Tryz.prog (AF_slices_Backward_api_Msg_api_Msg).Γ := ents_sound trivial
theorem slices_Backward_api_Msg_api_Msg_ok : EntOK Tryz.prog (AE_slices_Backward_api_Msg_api_Msg) :=
  fun_sound (F := (AF_slices_Backward_api_Msg_api_Msg)) Atab (slices_Backward_api_Msg_api_Msg_hG) Amixed (fn := Tryz.f129) (m := []) Tryz.func129 (by kernel_rfl) (by kernel_rfl) (by kernel_rfl) trivial (rfOK_no _ (by kernel_rfl)) (by kernel_rfl) (slices_Backward_api_Msg_api_Msg_eq)
theorem slices_Backward_api_Msg_api_Msg_ox : EntX Tryz.prog (AE_slices_Backward_api_Msg_api_Msg) := (slices_Backward_api_Msg_api_Msg_ok).x (by kernel_rfl)
def AS_span_Has : Shape := ⟨[(0, (.dat tapi_Span)), (1, (.dat .str))], []⟩
def AZ_span_Has : Shape := ⟨[(0, (.dat .bool))], []⟩
def AE_span_Has : Ent := ⟨191, AS_span_Has, AZ_span_Has, span_Has⟩
def AF_span_Has : Fx := mkFx Acx (lookupG []) (fun k st => .fail) 0
theorem span_Has_eq (s : AS_span_Has.ty.den) : @Eq (Option AZ_span_Has.ty.den) (evFn (AF_span_Has) Tryz.f191 AS_span_Has AZ_span_Has s).val (span_Has s) := by kernel_rfl
theorem span_Has_hG : GSound Tryz.prog (AF_span_Has).Γ := ents_sound trivial
theorem span_Has_ok : EntOK Tryz.prog (AE_span_Has) :=
  fun_sound (F := (AF_span_Has)) Atab (span_Has_hG) Amixed (fn := Tryz.f191) (m := []) Tryz.func191 (by kernel_rfl) (by kernel_rfl) (by kernel_rfl) trivial (rfOK_no _ (by kernel_rfl)) (by kernel_rfl) (span_Has_eq)
theorem span_Has_ox : EntX Tryz.prog (AE_span_Has) := (span_Has_ok).x (by kernel_rfl)
def AS_trace_stamp : Shape := ⟨[(0, (.ptr 0 tapi_Found 0 [])), (1, (.dat (.int .i64)))], [.box 130 tapi_Found (.agg [(.dat .bool), (.dat .bool), (.agg [(.dat .str), (.dat .str), (.dat (.int .i64))]), (.dat .str), (.dat .bool), (.dat (.int .i64))])]⟩
def AZ_trace_stamp : Shape := ⟨[], [.box 130 tapi_Found (.agg [(.dat .bool), (.dat .bool), (.agg [(.dat .str), (.dat .str), (.dat (.int .i64))]), (.dat .str), (.dat .bool), (.dat (.int .i64))])]⟩
def AE_trace_stamp : Ent := ⟨404, AS_trace_stamp, AZ_trace_stamp, trace_stamp⟩
def AF_trace_stamp : Fx := mkFx Acx (lookupG []) (fun k st => .fail) 1
theorem trace_stamp_eq (s : AS_trace_stamp.ty.den) : @Eq (Option AZ_trace_stamp.ty.den) (evFn (AF_trace_stamp) Tryz.f404 AS_trace_stamp AZ_trace_stamp s).val (trace_stamp s) := by kernel_rfl
theorem trace_stamp_hG : GSound Tryz.prog (AF_trace_stamp).Γ := ents_sound trivial
theorem trace_stamp_ok : EntOK Tryz.prog (AE_trace_stamp) :=
  fun_sound (F := (AF_trace_stamp)) Atab (trace_stamp_hG) Amixed (fn := Tryz.f404) (m := []) Tryz.func404 (by kernel_rfl) (by kernel_rfl) (by kernel_rfl) trivial (rfOK_no _ (by kernel_rfl)) (by kernel_rfl) (trace_stamp_eq)
theorem trace_stamp_ox : EntX Tryz.prog (AE_trace_stamp) := (trace_stamp_ok).x (by kernel_rfl)
def AS_trace_stepsC5 : Shape := ⟨[(0, (.ptr 0 tapi_Found 0 [])), (1, (.dat tapi_Msg))], [.box 130 tapi_Found (.agg [(.dat .bool), (.dat .bool), (.agg [(.dat .str), (.dat .str), (.dat (.int .i64))]), (.dat .str), (.dat .bool), (.dat (.int .i64))])]⟩
def AZ_trace_stepsC5 : Shape := ⟨[(0, (.dat .bool))], [.box 130 tapi_Found (.agg [(.dat .bool), (.dat .bool), (.agg [(.dat .str), (.dat .str), (.dat (.int .i64))]), (.dat .str), (.dat .bool), (.dat (.int .i64))])]⟩
def AE_trace_stepsC5 : Ent := ⟨409, AS_trace_stepsC5, AZ_trace_stepsC5, trace_stepsC5⟩
def AF_trace_stepsC5 : Fx := mkFx Acx (lookupG [AE_span_Has, AE_trace_stamp]) (fun k st => .fail) 1
theorem trace_stepsC5_eq (s : AS_trace_stepsC5.ty.den) : @Eq (Option AZ_trace_stepsC5.ty.den) (evFn (AF_trace_stepsC5) Tryz.f409 AS_trace_stepsC5 AZ_trace_stepsC5 s).val (trace_stepsC5 s) := by kernel_rfl
theorem trace_stepsC5_hG : GSound Tryz.prog (AF_trace_stepsC5).Γ := ents_sound ⟨(span_Has_ox), (trace_stamp_ox), trivial⟩
theorem trace_stepsC5_ok : EntOK Tryz.prog (AE_trace_stepsC5) :=
  fun_sound (F := (AF_trace_stepsC5)) Atab (trace_stepsC5_hG) Amixed (fn := Tryz.f409) (m := []) Tryz.func409 (by kernel_rfl) (by kernel_rfl) (by kernel_rfl) trivial (rfOK_no _ (by kernel_rfl)) (by kernel_rfl) (trace_stepsC5_eq)
theorem trace_stepsC5_ox : EntX Tryz.prog (AE_trace_stepsC5) := (trace_stepsC5_ok).x (by kernel_rfl)
def AS_internal_stringslite_HasPrefix : Shape := ⟨[(0, (.dat .str)), (1, (.dat .str))], []⟩
def AZ_internal_stringslite_HasPrefix : Shape := ⟨[(0, (.dat .bool))], []⟩
def AE_internal_stringslite_HasPrefix : Ent := ⟨299, AS_internal_stringslite_HasPrefix, AZ_internal_stringslite_HasPrefix, internal_stringslite_HasPrefix⟩
def AF_internal_stringslite_HasPrefix : Fx := mkFx Acx (lookupG []) (fun k st => .fail) 0
theorem internal_stringslite_HasPrefix_eq (s : AS_internal_stringslite_HasPrefix.ty.den) : @Eq (Option AZ_internal_stringslite_HasPrefix.ty.den) (evFn (AF_internal_stringslite_HasPrefix) Tryz.f299 AS_internal_stringslite_HasPrefix AZ_internal_stringslite_HasPrefix s).val (internal_stringslite_HasPrefix s) := by kernel_rfl
theorem internal_stringslite_HasPrefix_hG : GSound Tryz.prog (AF_internal_stringslite_HasPrefix).Γ := ents_sound trivial
theorem internal_stringslite_HasPrefix_ok : EntOK Tryz.prog (AE_internal_stringslite_HasPrefix) :=
  fun_sound (F := (AF_internal_stringslite_HasPrefix)) Atab (internal_stringslite_HasPrefix_hG) Amixed (fn := Tryz.f299) (m := []) Tryz.func299 (by kernel_rfl) (by kernel_rfl) (by kernel_rfl) trivial (rfOK_no _ (by kernel_rfl)) (by kernel_rfl) (internal_stringslite_HasPrefix_eq)
theorem internal_stringslite_HasPrefix_ox : EntX Tryz.prog (AE_internal_stringslite_HasPrefix) := (internal_stringslite_HasPrefix_ok).x (by kernel_rfl)
def AS_internal_stringslite_CutPrefix : Shape := ⟨[(0, (.dat .str)), (1, (.dat .str))], []⟩
def AZ_internal_stringslite_CutPrefix : Shape := ⟨[(0, (.dat .str)), (1, (.dat .bool))], []⟩
def AE_internal_stringslite_CutPrefix : Ent := ⟨282, AS_internal_stringslite_CutPrefix, AZ_internal_stringslite_CutPrefix, internal_stringslite_CutPrefix⟩
def AF_internal_stringslite_CutPrefix : Fx := mkFx Acx (lookupG [AE_internal_stringslite_HasPrefix]) (fun k st => .fail) 0
theorem internal_stringslite_CutPrefix_eq (s : AS_internal_stringslite_CutPrefix.ty.den) : @Eq (Option AZ_internal_stringslite_CutPrefix.ty.den) (evFn (AF_internal_stringslite_CutPrefix) Tryz.f282 AS_internal_stringslite_CutPrefix AZ_internal_stringslite_CutPrefix s).val (internal_stringslite_CutPrefix s) := by kernel_rfl
theorem internal_stringslite_CutPrefix_hG : GSound Tryz.prog (AF_internal_stringslite_CutPrefix).Γ := ents_sound ⟨(internal_stringslite_HasPrefix_ox), trivial⟩
theorem internal_stringslite_CutPrefix_ok : EntOK Tryz.prog (AE_internal_stringslite_CutPrefix) :=
  fun_sound (F := (AF_internal_stringslite_CutPrefix)) Atab (internal_stringslite_CutPrefix_hG) Amixed (fn := Tryz.f282) (m := []) Tryz.func282 (by kernel_rfl) (by kernel_rfl) (by kernel_rfl) trivial (rfOK_no _ (by kernel_rfl)) (by kernel_rfl) (internal_stringslite_CutPrefix_eq)
theorem internal_stringslite_CutPrefix_ox : EntX Tryz.prog (AE_internal_stringslite_CutPrefix) := (internal_stringslite_CutPrefix_ok).x (by kernel_rfl)
def AS_strings_CutPrefix : Shape := ⟨[(0, (.dat .str)), (1, (.dat .str))], []⟩
def AZ_strings_CutPrefix : Shape := ⟨[(0, (.dat .str)), (1, (.dat .bool))], []⟩
def AE_strings_CutPrefix : Ent := ⟨268, AS_strings_CutPrefix, AZ_strings_CutPrefix, strings_CutPrefix⟩
def AF_strings_CutPrefix : Fx := mkFx Acx (lookupG [AE_internal_stringslite_CutPrefix]) (fun k st => .fail) 0
theorem strings_CutPrefix_eq (s : AS_strings_CutPrefix.ty.den) : @Eq (Option AZ_strings_CutPrefix.ty.den) (evFn (AF_strings_CutPrefix) Tryz.f268 AS_strings_CutPrefix AZ_strings_CutPrefix s).val (strings_CutPrefix s) := by kernel_rfl
theorem strings_CutPrefix_hG : GSound Tryz.prog (AF_strings_CutPrefix).Γ := ents_sound ⟨(internal_stringslite_CutPrefix_ox), trivial⟩
theorem strings_CutPrefix_ok : EntOK Tryz.prog (AE_strings_CutPrefix) :=
  fun_sound (F := (AF_strings_CutPrefix)) Atab (strings_CutPrefix_hG) Amixed (fn := Tryz.f268) (m := []) Tryz.func268 (by kernel_rfl) (by kernel_rfl) (by kernel_rfl) trivial (rfOK_no _ (by kernel_rfl)) (by kernel_rfl) (strings_CutPrefix_eq)
theorem strings_CutPrefix_ox : EntX Tryz.prog (AE_strings_CutPrefix) := (strings_CutPrefix_ok).x (by kernel_rfl)
def AS_span_Moved : Shape := ⟨[(0, (.dat .str)), (1, (.dat .str)), (2, (.dat .str))], []⟩
def AZ_span_Moved : Shape := ⟨[(0, (.dat .str)), (1, (.dat .bool))], []⟩
def AE_span_Moved : Ent := ⟨267, AS_span_Moved, AZ_span_Moved, span_Moved⟩
def AF_span_Moved : Fx := mkFx Acx (lookupG [AE_strings_CutPrefix]) (fun k st => .fail) 0
theorem span_Moved_eq (s : AS_span_Moved.ty.den) : @Eq (Option AZ_span_Moved.ty.den) (evFn (AF_span_Moved) Tryz.f267 AS_span_Moved AZ_span_Moved s).val (span_Moved s) := by kernel_rfl
theorem span_Moved_hG : GSound Tryz.prog (AF_span_Moved).Γ := ents_sound ⟨(strings_CutPrefix_ox), trivial⟩
theorem span_Moved_ok : EntOK Tryz.prog (AE_span_Moved) :=
  fun_sound (F := (AF_span_Moved)) Atab (span_Moved_hG) Amixed (fn := Tryz.f267) (m := []) Tryz.func267 (by kernel_rfl) (by kernel_rfl) (by kernel_rfl) trivial (rfOK_no _ (by kernel_rfl)) (by kernel_rfl) (span_Moved_eq)
theorem span_Moved_ox : EntX Tryz.prog (AE_span_Moved) := (span_Moved_ok).x (by kernel_rfl)

end D
/- Entries, by program. -/
set_option linter.unusedVariables false
set_option maxRecDepth 100000
open Go Go.X Go.Proofs D
namespace D
def AS_trace_back : Shape := ⟨[(0, (.ptr 0 tapi_Found 0 [])), (1, (.dat tapi_Msg))], [.box 130 tapi_Found (.agg [(.dat .bool), (.dat .bool), (.agg [(.dat .str), (.dat .str), (.dat (.int .i64))]), (.dat .str), (.dat .bool), (.dat (.int .i64))])]⟩
def AZ_trace_back : Shape := ⟨[(0, (.dat .bool))], [.box 130 tapi_Found (.agg [(.dat .bool), (.dat .bool), (.agg [(.dat .str), (.dat .str), (.dat (.int .i64))]), (.dat .str), (.dat .bool), (.dat (.int .i64))])]⟩
def AE_trace_back : Ent := ⟨408, AS_trace_back, AZ_trace_back, trace_back⟩
def AF_trace_back : Fx := mkFx Acx (lookupG [AE_span_Moved]) (fun k st => .fail) 1
theorem trace_back_eq (s : AS_trace_back.ty.den) : @Eq (Option AZ_trace_back.ty.den) (evFn (AF_trace_back) Tryz.f408 AS_trace_back AZ_trace_back s).val (trace_back s) := by kernel_rfl
theorem trace_back_hG : GSound Tryz.prog (AF_trace_back).Γ := ents_sound ⟨(span_Moved_ox), trivial⟩
theorem trace_back_ok : EntOK Tryz.prog (AE_trace_back) :=
  fun_sound (F := (AF_trace_back)) Atab (trace_back_hG) Amixed (fn := Tryz.f408) (m := []) Tryz.func408 (by kernel_rfl) (by kernel_rfl) (by kernel_rfl) trivial (rfOK_no _ (by kernel_rfl)) (by kernel_rfl) (trace_back_eq)
theorem trace_back_ox : EntX Tryz.prog (AE_trace_back) := (trace_back_ok).x (by kernel_rfl)
def AS_strings_HasPrefix : Shape := ⟨[(0, (.dat .str)), (1, (.dat .str))], []⟩
def AZ_strings_HasPrefix : Shape := ⟨[(0, (.dat .bool))], []⟩
def AE_strings_HasPrefix : Ent := ⟨388, AS_strings_HasPrefix, AZ_strings_HasPrefix, strings_HasPrefix⟩
def AF_strings_HasPrefix : Fx := mkFx Acx (lookupG [AE_internal_stringslite_HasPrefix]) (fun k st => .fail) 0
theorem strings_HasPrefix_eq (s : AS_strings_HasPrefix.ty.den) : @Eq (Option AZ_strings_HasPrefix.ty.den) (evFn (AF_strings_HasPrefix) Tryz.f388 AS_strings_HasPrefix AZ_strings_HasPrefix s).val (strings_HasPrefix s) := by kernel_rfl
theorem strings_HasPrefix_hG : GSound Tryz.prog (AF_strings_HasPrefix).Γ := ents_sound ⟨(internal_stringslite_HasPrefix_ox), trivial⟩
theorem strings_HasPrefix_ok : EntOK Tryz.prog (AE_strings_HasPrefix) :=
  fun_sound (F := (AF_strings_HasPrefix)) Atab (strings_HasPrefix_hG) Amixed (fn := Tryz.f388) (m := []) Tryz.func388 (by kernel_rfl) (by kernel_rfl) (by kernel_rfl) trivial (rfOK_no _ (by kernel_rfl)) (by kernel_rfl) (strings_HasPrefix_eq)
theorem strings_HasPrefix_ox : EntX Tryz.prog (AE_strings_HasPrefix) := (strings_HasPrefix_ok).x (by kernel_rfl)
def AS_trace_stepsC4 : Shape := ⟨[(0, (.ptr 0 tapi_Found 0 [])), (1, (.dat tapi_Msg))], [.box 130 tapi_Found (.agg [(.dat .bool), (.dat .bool), (.agg [(.dat .str), (.dat .str), (.dat (.int .i64))]), (.dat .str), (.dat .bool), (.dat (.int .i64))])]⟩
def AZ_trace_stepsC4 : Shape := ⟨[(0, (.dat .bool))], [.box 130 tapi_Found (.agg [(.dat .bool), (.dat .bool), (.agg [(.dat .str), (.dat .str), (.dat (.int .i64))]), (.dat .str), (.dat .bool), (.dat (.int .i64))])]⟩
def AE_trace_stepsC4 : Ent := ⟨407, AS_trace_stepsC4, AZ_trace_stepsC4, trace_stepsC4⟩
def AF_trace_stepsC4 : Fx := mkFx Acx (lookupG [AE_trace_back, AE_strings_HasPrefix]) (fun k st => .fail) 1
theorem trace_stepsC4_eq (s : AS_trace_stepsC4.ty.den) : @Eq (Option AZ_trace_stepsC4.ty.den) (evFn (AF_trace_stepsC4) Tryz.f407 AS_trace_stepsC4 AZ_trace_stepsC4 s).val (trace_stepsC4 s) := by kernel_rfl
theorem trace_stepsC4_hG : GSound Tryz.prog (AF_trace_stepsC4).Γ := ents_sound ⟨(trace_back_ox), (strings_HasPrefix_ox), trivial⟩
theorem trace_stepsC4_ok : EntOK Tryz.prog (AE_trace_stepsC4) :=
  fun_sound (F := (AF_trace_stepsC4)) Atab (trace_stepsC4_hG) Amixed (fn := Tryz.f407) (m := []) Tryz.func407 (by kernel_rfl) (by kernel_rfl) (by kernel_rfl) trivial (rfOK_no _ (by kernel_rfl)) (by kernel_rfl) (trace_stepsC4_eq)
theorem trace_stepsC4_ox : EntX Tryz.prog (AE_trace_stepsC4) := (trace_stepsC4_ok).x (by kernel_rfl)
def AS_trace_stepsC3 : Shape := ⟨[(0, (.ptr 0 tapi_Found 0 [])), (1, (.dat tapi_Msg))], [.box 130 tapi_Found (.agg [(.dat .bool), (.dat .bool), (.agg [(.dat .str), (.dat .str), (.dat (.int .i64))]), (.dat .str), (.dat .bool), (.dat (.int .i64))])]⟩
def AZ_trace_stepsC3 : Shape := ⟨[(0, (.dat .bool))], [.box 130 tapi_Found (.agg [(.dat .bool), (.dat .bool), (.agg [(.dat .str), (.dat .str), (.dat (.int .i64))]), (.dat .str), (.dat .bool), (.dat (.int .i64))])]⟩
def AE_trace_stepsC3 : Ent := ⟨406, AS_trace_stepsC3, AZ_trace_stepsC3, trace_stepsC3⟩
def AF_trace_stepsC3 : Fx := mkFx Acx (lookupG [AE_span_Has]) (fun k st => .fail) 1
theorem trace_stepsC3_eq (s : AS_trace_stepsC3.ty.den) : @Eq (Option AZ_trace_stepsC3.ty.den) (evFn (AF_trace_stepsC3) Tryz.f406 AS_trace_stepsC3 AZ_trace_stepsC3 s).val (trace_stepsC3 s) := by kernel_rfl
theorem trace_stepsC3_hG : GSound Tryz.prog (AF_trace_stepsC3).Γ := ents_sound ⟨(span_Has_ox), trivial⟩
theorem trace_stepsC3_ok : EntOK Tryz.prog (AE_trace_stepsC3) :=
  fun_sound (F := (AF_trace_stepsC3)) Atab (trace_stepsC3_hG) Amixed (fn := Tryz.f406) (m := []) Tryz.func406 (by kernel_rfl) (by kernel_rfl) (by kernel_rfl) trivial (rfOK_no _ (by kernel_rfl)) (by kernel_rfl) (trace_stepsC3_eq)
theorem trace_stepsC3_ox : EntX Tryz.prog (AE_trace_stepsC3) := (trace_stepsC3_ok).x (by kernel_rfl)
def AS_trace_stepsC2 : Shape := ⟨[(0, (.ptr 0 tapi_Found 0 [])), (1, (.dat tapi_Msg))], [.box 130 tapi_Found (.agg [(.dat .bool), (.dat .bool), (.agg [(.dat .str), (.dat .str), (.dat (.int .i64))]), (.dat .str), (.dat .bool), (.dat (.int .i64))])]⟩
def AZ_trace_stepsC2 : Shape := ⟨[(0, (.dat .bool))], [.box 130 tapi_Found (.agg [(.dat .bool), (.dat .bool), (.agg [(.dat .str), (.dat .str), (.dat (.int .i64))]), (.dat .str), (.dat .bool), (.dat (.int .i64))])]⟩
def AE_trace_stepsC2 : Ent := ⟨405, AS_trace_stepsC2, AZ_trace_stepsC2, trace_stepsC2⟩
def AF_trace_stepsC2 : Fx := mkFx Acx (lookupG []) (fun k st => .fail) 1
theorem trace_stepsC2_eq (s : AS_trace_stepsC2.ty.den) : @Eq (Option AZ_trace_stepsC2.ty.den) (evFn (AF_trace_stepsC2) Tryz.f405 AS_trace_stepsC2 AZ_trace_stepsC2 s).val (trace_stepsC2 s) := by kernel_rfl
theorem trace_stepsC2_hG : GSound Tryz.prog (AF_trace_stepsC2).Γ := ents_sound trivial
theorem trace_stepsC2_ok : EntOK Tryz.prog (AE_trace_stepsC2) :=
  fun_sound (F := (AF_trace_stepsC2)) Atab (trace_stepsC2_hG) Amixed (fn := Tryz.f405) (m := []) Tryz.func405 (by kernel_rfl) (by kernel_rfl) (by kernel_rfl) trivial (rfOK_no _ (by kernel_rfl)) (by kernel_rfl) (trace_stepsC2_eq)
theorem trace_stepsC2_ox : EntX Tryz.prog (AE_trace_stepsC2) := (trace_stepsC2_ok).x (by kernel_rfl)
def AS_trace_stepsC1 : Shape := ⟨[(0, (.ptr 0 tapi_Found 0 [])), (1, (.dat tapi_Msg))], [.box 130 tapi_Found (.agg [(.dat .bool), (.dat .bool), (.agg [(.dat .str), (.dat .str), (.dat (.int .i64))]), (.dat .str), (.dat .bool), (.dat (.int .i64))])]⟩
def AZ_trace_stepsC1 : Shape := ⟨[(0, (.dat .bool))], [.box 130 tapi_Found (.agg [(.dat .bool), (.dat .bool), (.agg [(.dat .str), (.dat .str), (.dat (.int .i64))]), (.dat .str), (.dat .bool), (.dat (.int .i64))])]⟩
def AE_trace_stepsC1 : Ent := ⟨403, AS_trace_stepsC1, AZ_trace_stepsC1, trace_stepsC1⟩
def AF_trace_stepsC1 : Fx := mkFx Acx (lookupG [AE_trace_stamp]) (fun k st => .fail) 1
theorem trace_stepsC1_eq (s : AS_trace_stepsC1.ty.den) : @Eq (Option AZ_trace_stepsC1.ty.den) (evFn (AF_trace_stepsC1) Tryz.f403 AS_trace_stepsC1 AZ_trace_stepsC1 s).val (trace_stepsC1 s) := by kernel_rfl
theorem trace_stepsC1_hG : GSound Tryz.prog (AF_trace_stepsC1).Γ := ents_sound ⟨(trace_stamp_ox), trivial⟩
theorem trace_stepsC1_ok : EntOK Tryz.prog (AE_trace_stepsC1) :=
  fun_sound (F := (AF_trace_stepsC1)) Atab (trace_stepsC1_hG) Amixed (fn := Tryz.f403) (m := []) Tryz.func403 (by kernel_rfl) (by kernel_rfl) (by kernel_rfl) trivial (rfOK_no _ (by kernel_rfl)) (by kernel_rfl) (trace_stepsC1_eq)
theorem trace_stepsC1_ox : EntX Tryz.prog (AE_trace_stepsC1) := (trace_stepsC1_ok).x (by kernel_rfl)
def AS_trace_Key_round0 : Shape := ⟨[(0, (.yld 1007300 0)), (1, (.dat (.int .i64))), (2, (.dat tapi_Msg))], [.loop 1007300 [(5, (.ptr 1 tapi_Found 0 [])), (4, (.ptr 2 tapi_Found 0 []))], .box 130 tapi_Found (.agg [(.dat .bool), (.dat .bool), (.agg [(.dat .str), (.dat .str), (.dat (.int .i64))]), (.dat .str), (.dat .bool), (.dat (.int .i64))]), .box 130 tapi_Found (.agg [(.dat .bool), (.dat .bool), (.agg [(.dat .str), (.dat .str), (.dat (.int .i64))]), (.dat .str), (.dat .bool), (.dat (.int .i64))])]⟩
def AZ_trace_Key_round0 : Shape := ⟨[(0, (.dat .bool))], [.loop 1007300 [(5, (.ptr 1 tapi_Found 0 [])), (4, (.ptr 2 tapi_Found 0 []))], .box 130 tapi_Found (.agg [(.dat .bool), (.dat .bool), (.agg [(.dat .str), (.dat .str), (.dat (.int .i64))]), (.dat .str), (.dat .bool), (.dat (.int .i64))]), .box 130 tapi_Found (.agg [(.dat .bool), (.dat .bool), (.agg [(.dat .str), (.dat .str), (.dat (.int .i64))]), (.dat .str), (.dat .bool), (.dat (.int .i64))])]⟩
def AE_trace_Key_round0 : Ent := ⟨1007300, AS_trace_Key_round0, AZ_trace_Key_round0, trace_Key_round0⟩
def AF_trace_Key_round0 : Fx := mkFx Acx (lookupG [AE_trace_stepsC5, AE_trace_back, AE_trace_stepsC4, AE_trace_stepsC3, AE_trace_stepsC2, AE_trace_stepsC1]) (fun k st => .fail) 3
theorem trace_Key_round0_eq (s : AS_trace_Key_round0.ty.den) : @Eq (Option AZ_trace_Key_round0.ty.den) (evRnd (AF_trace_Key_round0) evC 1007300 (rcAt Tryz.f73 0) AS_trace_Key_round0 AZ_trace_Key_round0 s).val (trace_Key_round0 s) := by kernel_rfl
theorem trace_Key_round0_hG : GSound Tryz.prog (AF_trace_Key_round0).Γ := ents_sound ⟨(trace_stepsC5_ox), (trace_back_ox), (trace_stepsC4_ox), (trace_stepsC3_ox), (trace_stepsC2_ox), (trace_stepsC1_ox), trivial⟩
theorem trace_Key_round0_ox : EntX Tryz.prog (AE_trace_Key_round0) :=
  rnd_soundC (F := (AF_trace_Key_round0)) (c := rcAt Tryz.f73 0) Atab (trace_Key_round0_hG) Amixed (by kernel_rfl) (by kernel_rfl) (by kernel_rfl) (m := []) (by kernel_rfl) trivial (by kernel_rfl) (trace_Key_round0_eq)
def AL_slices_Backward_api_Msg_api_Msg_C1_0 : Lp := ⟨⟨[(0, (.yld 1007300 0)), (1, (.ptr 1 (.list tapi_Msg) 0 [])), (3, (.dat (.int .i64)))], [.loop 1007300 [(5, (.ptr 2 tapi_Found 0 [])), (4, (.ptr 3 tapi_Found 0 []))], .box 96 (.list tapi_Msg) (.dat (.list tapi_Msg)), .box 130 tapi_Found (.agg [(.dat .bool), (.dat .bool), (.agg [(.dat .str), (.dat .str), (.dat (.int .i64))]), (.dat .str), (.dat .bool), (.dat (.int .i64))]), .box 130 tapi_Found (.agg [(.dat .bool), (.dat .bool), (.agg [(.dat .str), (.dat .str), (.dat (.int .i64))]), (.dat .str), (.dat .bool), (.dat (.int .i64))])]⟩, .ret, ⟨[], [.loop 1007300 [(5, (.ptr 2 tapi_Found 0 [])), (4, (.ptr 3 tapi_Found 0 []))], .box 96 (.list tapi_Msg) (.dat (.list tapi_Msg)), .box 130 tapi_Found (.agg [(.dat .bool), (.dat .bool), (.agg [(.dat .str), (.dat .str), (.dat (.int .i64))]), (.dat .str), (.dat .bool), (.dat (.int .i64))]), .box 130 tapi_Found (.agg [(.dat .bool), (.dat .bool), (.agg [(.dat .str), (.dat .str), (.dat (.int .i64))]), (.dat .str), (.dat .bool), (.dat (.int .i64))])]⟩, (.exit 0), ⟨[], [.loop 1007300 [(5, (.ptr 2 tapi_Found 0 [])), (4, (.ptr 3 tapi_Found 0 []))], .box 96 (.list tapi_Msg) (.dat (.list tapi_Msg)), .box 130 tapi_Found (.agg [(.dat .bool), (.dat .bool), (.agg [(.dat .str), (.dat .str), (.dat (.int .i64))]), (.dat .str), (.dat .bool), (.dat (.int .i64))]), .box 130 tapi_Found (.agg [(.dat .bool), (.dat .bool), (.agg [(.dat .str), (.dat .str), (.dat (.int .i64))]), (.dat .str), (.dat .bool), (.dat (.int .i64))])]⟩⟩
def AS_slices_Backward_api_Msg_api_Msg_C1 : Shape := ⟨[(0, (.yld 1007300 0)), (1, (.ptr 1 (.list tapi_Msg) 0 []))], [.loop 1007300 [(5, (.ptr 2 tapi_Found 0 [])), (4, (.ptr 3 tapi_Found 0 []))], .box 96 (.list tapi_Msg) (.dat (.list tapi_Msg)), .box 130 tapi_Found (.agg [(.dat .bool), (.dat .bool), (.agg [(.dat .str), (.dat .str), (.dat (.int .i64))]), (.dat .str), (.dat .bool), (.dat (.int .i64))]), .box 130 tapi_Found (.agg [(.dat .bool), (.dat .bool), (.agg [(.dat .str), (.dat .str), (.dat (.int .i64))]), (.dat .str), (.dat .bool), (.dat (.int .i64))])]⟩
def AZ_slices_Backward_api_Msg_api_Msg_C1 : Shape := ⟨[], [.loop 1007300 [(5, (.ptr 2 tapi_Found 0 [])), (4, (.ptr 3 tapi_Found 0 []))], .box 96 (.list tapi_Msg) (.dat (.list tapi_Msg)), .box 130 tapi_Found (.agg [(.dat .bool), (.dat .bool), (.agg [(.dat .str), (.dat .str), (.dat (.int .i64))]), (.dat .str), (.dat .bool), (.dat (.int .i64))]), .box 130 tapi_Found (.agg [(.dat .bool), (.dat .bool), (.agg [(.dat .str), (.dat .str), (.dat (.int .i64))]), (.dat .str), (.dat .bool), (.dat (.int .i64))])]⟩
def AE_slices_Backward_api_Msg_api_Msg_C1 : Ent := ⟨179, AS_slices_Backward_api_Msg_api_Msg_C1, AZ_slices_Backward_api_Msg_api_Msg_C1, slices_Backward_api_Msg_api_Msg_C1⟩
def AF_slices_Backward_api_Msg_api_Msg_C1 : Fx := mkFx Acx (lookupG [AE_trace_Key_round0]) (fun k st => bif Nat.beq k 0 then AL_slices_Backward_api_Msg_api_Msg_C1_0.go (slices_Backward_api_Msg_api_Msg_C1_l0) 4 st else .fail) 4
theorem slices_Backward_api_Msg_api_Msg_C1_b0_eq (s : AL_slices_Backward_api_Msg_api_Msg_C1_0.S.ty.den) : @Eq (Option (AL_slices_Backward_api_Msg_api_Msg_C1_0.S.ty.den ⊕ AL_slices_Backward_api_Msg_api_Msg_C1_0.Out)) (AL_slices_Backward_api_Msg_api_Msg_C1_0.body (AF_slices_Backward_api_Msg_api_Msg_C1) (loopAt (bodyOf Tryz.f179) 0) 0 s).val (slices_Backward_api_Msg_api_Msg_C1_b0 s) := by kernel_rfl
theorem slices_Backward_api_Msg_api_Msg_C1_eq (s : AS_slices_Backward_api_Msg_api_Msg_C1.ty.den) : @Eq (Option AZ_slices_Backward_api_Msg_api_Msg_C1.ty.den) (evFn (AF_slices_Backward_api_Msg_api_Msg_C1) Tryz.f179 AS_slices_Backward_api_Msg_api_Msg_C1 AZ_slices_Backward_api_Msg_api_Msg_C1 s).val (slices_Backward_api_Msg_api_Msg_C1 s) := by kernel_rfl
theorem slices_Backward_api_Msg_api_Msg_C1_hG : GSound Tryz.prog (AF_slices_Backward_api_Msg_api_Msg_C1).Γ := ents_sound ⟨(trace_Key_round0_ox), trivial⟩
theorem slices_Backward_api_Msg_api_Msg_C1_la0 : LamOK Tryz.prog (AF_slices_Backward_api_Msg_api_Msg_C1) Tryz.f179.ntmps 0 (loopAt (bodyOf Tryz.f179) 0) :=
  lam_sound Atab (slices_Backward_api_Msg_api_Msg_C1_hG) Amixed (L := AL_slices_Backward_api_Msg_api_Msg_C1_0) (f := slices_Backward_api_Msg_api_Msg_C1_l0) (b := slices_Backward_api_Msg_api_Msg_C1_b0) (m := []) (fun _ => rfl) (by kernel_rfl) (by kernel_rfl) trivial (by kernel_rfl) (rfOK_no _ (by kernel_rfl)) (slices_Backward_api_Msg_api_Msg_C1_b0_eq)
theorem slices_Backward_api_Msg_api_Msg_C1_ok : EntOK Tryz.prog (AE_slices_Backward_api_Msg_api_Msg_C1) :=
  fun_sound (F := (AF_slices_Backward_api_Msg_api_Msg_C1)) Atab (slices_Backward_api_Msg_api_Msg_C1_hG) Amixed (fn := Tryz.f179) (m := [(0, loopAt (bodyOf Tryz.f179) 0)]) Tryz.func179 (by kernel_rfl) (by kernel_rfl) (by kernel_rfl) ⟨slices_Backward_api_Msg_api_Msg_C1_la0, trivial⟩ (rfOK_no _ (by kernel_rfl)) (by kernel_rfl) (slices_Backward_api_Msg_api_Msg_C1_eq)
theorem slices_Backward_api_Msg_api_Msg_C1_ox : EntX Tryz.prog (AE_slices_Backward_api_Msg_api_Msg_C1) := (slices_Backward_api_Msg_api_Msg_C1_ok).x (by kernel_rfl)
def AS_trace_Key : Shape := ⟨[(0, (.dat .str)), (1, (.dat (.list tapi_Msg)))], []⟩
def AZ_trace_Key : Shape := ⟨[(0, (.dat tapi_Found))], []⟩
def AE_trace_Key : Ent := ⟨73, AS_trace_Key, AZ_trace_Key, trace_Key⟩
def AF_trace_Key : Fx := { cx := Acx, Γ := lookupG [AE_slices_Backward_api_Msg_api_Msg, AE_slices_Backward_api_Msg_api_Msg_C1], Λ := fun k st => .fail, keep := fun _ => none, m := 0, rfs := fun k => bif Nat.beq k 3 then some 1007300 else none, its := [179] }
theorem trace_Key_eq (s : AS_trace_Key.ty.den) : @Eq (Option AZ_trace_Key.ty.den) (evFn (AF_trace_Key) Tryz.f73 AS_trace_Key AZ_trace_Key s).val (trace_Key s) := by kernel_rfl
theorem trace_Key_hG : GSound Tryz.prog (AF_trace_Key).Γ := ents_sound ⟨(slices_Backward_api_Msg_api_Msg_ox), (slices_Backward_api_Msg_api_Msg_C1_ox), trivial⟩
theorem trace_Key_ok : EntOK Tryz.prog (AE_trace_Key) :=
  fun_sound (F := (AF_trace_Key)) Atab (trace_Key_hG) Amixed (fn := Tryz.f73) (m := []) Tryz.func73 (by kernel_rfl) (by kernel_rfl) (by kernel_rfl) trivial (rfOK_of (m := [(3, rcAt Tryz.f73 0)]) (its := [179]) (by kernel_rfl) ⟨rf_one (Y := 1007300) (by kernel_rfl) (by kernel_rfl), trivial⟩ (by kernel_rfl) ⟨⟨_, Tryz.func179, by kernel_rfl, by kernel_rfl⟩, trivial⟩) (by kernel_rfl) (trace_Key_eq)
theorem trace_Key_ox : EntX Tryz.prog (AE_trace_Key) := (trace_Key_ok).x (by kernel_rfl)
def AS_cmp_isNaN_string : Shape := ⟨[(0, (.dat .str))], []⟩
def AZ_cmp_isNaN_string : Shape := ⟨[(0, (.dat .bool))], []⟩
def AE_cmp_isNaN_string : Ent := ⟨234, AS_cmp_isNaN_string, AZ_cmp_isNaN_string, cmp_isNaN_string⟩
def AF_cmp_isNaN_string : Fx := mkFx Acx (lookupG []) (fun k st => .fail) 0
theorem cmp_isNaN_string_eq (s : AS_cmp_isNaN_string.ty.den) : @Eq (Option AZ_cmp_isNaN_string.ty.den) (evFn (AF_cmp_isNaN_string) Tryz.f234 AS_cmp_isNaN_string AZ_cmp_isNaN_string s).val (cmp_isNaN_string s) := by kernel_rfl
theorem cmp_isNaN_string_hG : GSound Tryz.prog (AF_cmp_isNaN_string).Γ := ents_sound trivial
theorem cmp_isNaN_string_ok : EntOK Tryz.prog (AE_cmp_isNaN_string) :=
  fun_sound (F := (AF_cmp_isNaN_string)) Atab (cmp_isNaN_string_hG) Amixed (fn := Tryz.f234) (m := []) Tryz.func234 (by kernel_rfl) (by kernel_rfl) (by kernel_rfl) trivial (rfOK_no _ (by kernel_rfl)) (by kernel_rfl) (cmp_isNaN_string_eq)
theorem cmp_isNaN_string_ox : EntX Tryz.prog (AE_cmp_isNaN_string) := (cmp_isNaN_string_ok).x (by kernel_rfl)
def AS_cmp_Less_string : Shape := ⟨[(0, (.dat .str)), (1, (.dat .str))], []⟩
def AZ_cmp_Less_string : Shape := ⟨[(0, (.dat .bool))], []⟩
def AE_cmp_Less_string : Ent := ⟨180, AS_cmp_Less_string, AZ_cmp_Less_string, cmp_Less_string⟩
def AF_cmp_Less_string : Fx := mkFx Acx (lookupG [AE_cmp_isNaN_string]) (fun k st => .fail) 0
theorem cmp_Less_string_eq (s : AS_cmp_Less_string.ty.den) : @Eq (Option AZ_cmp_Less_string.ty.den) (evFn (AF_cmp_Less_string) Tryz.f180 AS_cmp_Less_string AZ_cmp_Less_string s).val (cmp_Less_string s) := by kernel_rfl
theorem cmp_Less_string_hG : GSound Tryz.prog (AF_cmp_Less_string).Γ := ents_sound ⟨(cmp_isNaN_string_ox), trivial⟩
theorem cmp_Less_string_ok : EntOK Tryz.prog (AE_cmp_Less_string) :=
  fun_sound (F := (AF_cmp_Less_string)) Atab (cmp_Less_string_hG) Amixed (fn := Tryz.f180) (m := []) Tryz.func180 (by kernel_rfl) (by kernel_rfl) (by kernel_rfl) trivial (rfOK_no _ (by kernel_rfl)) (by kernel_rfl) (cmp_Less_string_eq)
theorem cmp_Less_string_ox : EntX Tryz.prog (AE_cmp_Less_string) := (cmp_Less_string_ok).x (by kernel_rfl)
def AS_slices_isNaN_string : Shape := ⟨[(0, (.dat .str))], []⟩
def AZ_slices_isNaN_string : Shape := ⟨[(0, (.dat .bool))], []⟩
def AE_slices_isNaN_string : Ent := ⟨181, AS_slices_isNaN_string, AZ_slices_isNaN_string, slices_isNaN_string⟩
def AF_slices_isNaN_string : Fx := mkFx Acx (lookupG []) (fun k st => .fail) 0
theorem slices_isNaN_string_eq (s : AS_slices_isNaN_string.ty.den) : @Eq (Option AZ_slices_isNaN_string.ty.den) (evFn (AF_slices_isNaN_string) Tryz.f181 AS_slices_isNaN_string AZ_slices_isNaN_string s).val (slices_isNaN_string s) := by kernel_rfl
theorem slices_isNaN_string_hG : GSound Tryz.prog (AF_slices_isNaN_string).Γ := ents_sound trivial
theorem slices_isNaN_string_ok : EntOK Tryz.prog (AE_slices_isNaN_string) :=
  fun_sound (F := (AF_slices_isNaN_string)) Atab (slices_isNaN_string_hG) Amixed (fn := Tryz.f181) (m := []) Tryz.func181 (by kernel_rfl) (by kernel_rfl) (by kernel_rfl) trivial (rfOK_no _ (by kernel_rfl)) (by kernel_rfl) (slices_isNaN_string_eq)
theorem slices_isNaN_string_ox : EntX Tryz.prog (AE_slices_isNaN_string) := (slices_isNaN_string_ok).x (by kernel_rfl)
def AL_slices_BinarySearch_string_string_0 : Lp := ⟨⟨[(0, (.dat (.list .str))), (1, (.dat .str)), (6, (.dat (.int .i64))), (7, (.dat (.int .i64))), (8, (.dat (.int .i64)))], []⟩, (.exit 0), ⟨[(0, (.dat (.list .str))), (1, (.dat .str)), (6, (.dat (.int .i64))), (7, (.dat (.int .i64)))], []⟩, (.exit 80000000), ⟨[], []⟩⟩
def AS_slices_BinarySearch_string_string : Shape := ⟨[(0, (.dat (.list .str))), (1, (.dat .str))], []⟩
def AZ_slices_BinarySearch_string_string : Shape := ⟨[(0, (.dat (.int .i64))), (1, (.dat .bool))], []⟩
def AE_slices_BinarySearch_string_string : Ent := ⟨130, AS_slices_BinarySearch_string_string, AZ_slices_BinarySearch_string_string, slices_BinarySearch_string_string⟩
def AF_slices_BinarySearch_string_string : Fx := mkFx Acx (lookupG [AE_cmp_Less_string, AE_slices_isNaN_string]) (fun k st => bif Nat.beq k 0 then AL_slices_BinarySearch_string_string_0.go (slices_BinarySearch_string_string_l0) 0 st else .fail) 0
theorem slices_BinarySearch_string_string_b0_eq (s : AL_slices_BinarySearch_string_string_0.S.ty.den) : @Eq (Option (AL_slices_BinarySearch_string_string_0.S.ty.den ⊕ AL_slices_BinarySearch_string_string_0.Out)) (AL_slices_BinarySearch_string_string_0.body (AF_slices_BinarySearch_string_string) (loopAt (bodyOf Tryz.f130) 0) 0 s).val (slices_BinarySearch_string_string_b0 s) := by kernel_rfl
theorem slices_BinarySearch_string_string_eq (s : AS_slices_BinarySearch_string_string.ty.den) : @Eq (Option AZ_slices_BinarySearch_string_string.ty.den) (evFn (AF_slices_BinarySearch_string_string) Tryz.f130 AS_slices_BinarySearch_string_string AZ_slices_BinarySearch_string_string s).val (slices_BinarySearch_string_string s) := by kernel_rfl
theorem slices_BinarySearch_string_string_hG : GSound Tryz.prog (AF_slices_BinarySearch_string_string).Γ := ents_sound ⟨(cmp_Less_string_ox), (slices_isNaN_string_ox), trivial⟩
theorem slices_BinarySearch_string_string_la0 : LamOK Tryz.prog (AF_slices_BinarySearch_string_string) Tryz.f130.ntmps 0 (loopAt (bodyOf Tryz.f130) 0) :=
  lam_sound Atab (slices_BinarySearch_string_string_hG) Amixed (L := AL_slices_BinarySearch_string_string_0) (f := slices_BinarySearch_string_string_l0) (b := slices_BinarySearch_string_string_b0) (m := []) (fun _ => rfl) (by kernel_rfl) (by kernel_rfl) trivial (by kernel_rfl) (rfOK_no _ (by kernel_rfl)) (slices_BinarySearch_string_string_b0_eq)
theorem slices_BinarySearch_string_string_ok : EntOK Tryz.prog (AE_slices_BinarySearch_string_string) :=
  fun_sound (F := (AF_slices_BinarySearch_string_string)) Atab (slices_BinarySearch_string_string_hG) Amixed (fn := Tryz.f130) (m := [(0, loopAt (bodyOf Tryz.f130) 0)]) Tryz.func130 (by kernel_rfl) (by kernel_rfl) (by kernel_rfl) ⟨slices_BinarySearch_string_string_la0, trivial⟩ (rfOK_no _ (by kernel_rfl)) (by kernel_rfl) (slices_BinarySearch_string_string_eq)
theorem slices_BinarySearch_string_string_ox : EntX Tryz.prog (AE_slices_BinarySearch_string_string) := (slices_BinarySearch_string_string_ok).x (by kernel_rfl)
def AS_route_Kid : Shape := ⟨[(0, (.dat .str)), (1, (.dat (.list .str)))], []⟩
def AZ_route_Kid : Shape := ⟨[(0, (.dat (.int .i64)))], []⟩
def AE_route_Kid : Ent := ⟨76, AS_route_Kid, AZ_route_Kid, route_Kid⟩
def AF_route_Kid : Fx := mkFx Acx (lookupG [AE_slices_BinarySearch_string_string]) (fun k st => .fail) 0
theorem route_Kid_eq (s : AS_route_Kid.ty.den) : @Eq (Option AZ_route_Kid.ty.den) (evFn (AF_route_Kid) Tryz.f76 AS_route_Kid AZ_route_Kid s).val (route_Kid s) := by kernel_rfl
theorem route_Kid_hG : GSound Tryz.prog (AF_route_Kid).Γ := ents_sound ⟨(slices_BinarySearch_string_string_ox), trivial⟩
theorem route_Kid_ok : EntOK Tryz.prog (AE_route_Kid) :=
  fun_sound (F := (AF_route_Kid)) Atab (route_Kid_hG) Amixed (fn := Tryz.f76) (m := []) Tryz.func76 (by kernel_rfl) (by kernel_rfl) (by kernel_rfl) trivial (rfOK_no _ (by kernel_rfl)) (by kernel_rfl) (route_Kid_eq)
theorem route_Kid_ox : EntX Tryz.prog (AE_route_Kid) := (route_Kid_ok).x (by kernel_rfl)
def AS_trace_Value : Shape := ⟨[(0, (.dat tapi_Found)), (1, (.dat tapi_Pair)), (2, (.dat .bool))], []⟩
def AZ_trace_Value : Shape := ⟨[(0, (.dat tapi_Pair)), (1, (.dat .bool))], []⟩
def AE_trace_Value : Ent := ⟨75, AS_trace_Value, AZ_trace_Value, trace_Value⟩
def AF_trace_Value : Fx := mkFx Acx (lookupG []) (fun k st => .fail) 0
theorem trace_Value_eq (s : AS_trace_Value.ty.den) : @Eq (Option AZ_trace_Value.ty.den) (evFn (AF_trace_Value) Tryz.f75 AS_trace_Value AZ_trace_Value s).val (trace_Value s) := by kernel_rfl
theorem trace_Value_hG : GSound Tryz.prog (AF_trace_Value).Γ := ents_sound trivial
theorem trace_Value_ok : EntOK Tryz.prog (AE_trace_Value) :=
  fun_sound (F := (AF_trace_Value)) Atab (trace_Value_hG) Amixed (fn := Tryz.f75) (m := []) Tryz.func75 (by kernel_rfl) (by kernel_rfl) (by kernel_rfl) trivial (rfOK_no _ (by kernel_rfl)) (by kernel_rfl) (trace_Value_eq)
theorem trace_Value_ox : EntX Tryz.prog (AE_trace_Value) := (trace_Value_ok).x (by kernel_rfl)
def AL_tree_Get_0 : Lp := ⟨⟨[(1, (.dat .str)), (2, (.ptr 0 tapi_Tree 0 [])), (4, (.ptr 1 tapi_Pair 0 [])), (5, (.ptr 2 .bool 0 [])), (6, (.ptr 3 (.int .i64) 0 [])), (8, (.dat (.int .i64))), (1000000000, (.dfr 74 [(.ptr 3 (.int .i64) 0 [])] [(.ptr 1 tapi_Pair 0 []), (.ptr 2 .bool 0 [])] tapi_Found))], [.box 36 tapi_Tree (.dat tapi_Tree), .box 54 tapi_Pair (.agg [(.dat .str), (.dat .str), (.dat (.int .i64))]), .box 4 .bool (.dat .bool), .box 3 (.int .i64) (.dat (.int .i64))]⟩, .ret, ⟨[(4, (.ptr 0 tapi_Pair 0 [])), (5, (.ptr 1 .bool 0 [])), (6, (.ptr 2 (.int .i64) 0 [])), (7, (.dat (.int .i64))), (1000000000, (.dfr 74 [(.ptr 2 (.int .i64) 0 [])] [(.ptr 0 tapi_Pair 0 []), (.ptr 1 .bool 0 [])] tapi_Found))], [.box 54 tapi_Pair (.dat tapi_Pair), .box 4 .bool (.dat .bool), .box 3 (.int .i64) (.dat (.int .i64))]⟩, (.exit 80000000), ⟨[], []⟩⟩
def AL_tree_Get_d : Lp := ⟨⟨[(4, (.ptr 0 tapi_Pair 0 [])), (5, (.ptr 1 .bool 0 [])), (6, (.ptr 2 (.int .i64) 0 [])), (7, (.dat (.int .i64))), (1000000000, (.dfr 74 [(.ptr 2 (.int .i64) 0 [])] [(.ptr 0 tapi_Pair 0 []), (.ptr 1 .bool 0 [])] tapi_Found))], [.box 54 tapi_Pair (.dat tapi_Pair), .box 4 .bool (.dat .bool), .box 3 (.int .i64) (.dat (.int .i64))]⟩, .nrm, ⟨[(4, (.ptr 0 tapi_Pair 0 [])), (5, (.ptr 1 .bool 0 [])), (6, (.ptr 2 (.int .i64) 0 [])), (7, (.dat (.int .i64)))], [.box 54 tapi_Pair (.dat tapi_Pair), .box 4 .bool (.dat .bool), .box 3 (.int .i64) (.dat (.int .i64))]⟩, (.exit 80000000), ⟨[], []⟩⟩
def AS_tree_Get : Shape := ⟨[(0, (.dat tapi_Tree)), (1, (.dat .str))], []⟩
def AZ_tree_Get : Shape := ⟨[(0, (.dat tapi_Pair)), (1, (.dat .bool)), (2, (.dat (.int .i64))), (3, (.dat (.int .i64)))], []⟩
def AE_tree_Get : Ent := ⟨25, AS_tree_Get, AZ_tree_Get, tree_Get⟩
def AF_tree_Get : Fx := { cx := Acx, Γ := lookupG [AE_pool_Get, AE_tree_leaf, AE_table_Find, AE_trace_Key, AE_route_Kid, AE_trace_Value], Λ := fun k st => bif Nat.beq k 0 then AL_tree_Get_0.go (tree_Get_l0) 0 st else bif Nat.beq k gd then AL_tree_Get_d.go (tree_Get_dl) 0 st else .fail, keep := fun _ => none, m := 0, dfr := fun k => bif Nat.beq k 0 then some (74, [6], [4, 5], tapi_Found) else none }
def AFd_tree_Get : Fx := mkFx Acx (lookupG [AE_pool_Get, AE_tree_leaf, AE_table_Find, AE_trace_Key, AE_route_Kid, AE_trace_Value]) (fun _ _ => .fail) 3
theorem tree_Get_db_eq (s : AL_tree_Get_d.S.ty.den) : @Eq (Option (AL_tree_Get_d.S.ty.den ⊕ AL_tree_Get_d.Out)) (dfrBody AL_tree_Get_d (AF_tree_Get).m (AFd_tree_Get) 74 Tryz.f74 s).val (tree_Get_db s) := by kernel_rfl
theorem tree_Get_b0_eq (s : AL_tree_Get_0.S.ty.den) : @Eq (Option (AL_tree_Get_0.S.ty.den ⊕ AL_tree_Get_0.Out)) (AL_tree_Get_0.body (AF_tree_Get) (loopAt (bodyOf Tryz.f25) 0) 0 s).val (tree_Get_b0 s) := by kernel_rfl
theorem tree_Get_eq (s : AS_tree_Get.ty.den) : @Eq (Option AZ_tree_Get.ty.den) (evFnD (AF_tree_Get) Tryz.f25 AS_tree_Get AZ_tree_Get s).val (tree_Get s) := by kernel_rfl
theorem tree_Get_hG : GSound Tryz.prog (AF_tree_Get).Γ := ents_sound ⟨(pool_Get_ox), (tree_leaf_ox), (table_Find_ox), (trace_Key_ox), (route_Kid_ox), (trace_Value_ox), trivial⟩
theorem tree_Get_la0 : LamOK Tryz.prog (AF_tree_Get) Tryz.f25.ntmps 0 (loopAt (bodyOf Tryz.f25) 0) :=
  lam_sound Atab (tree_Get_hG) Amixed (L := AL_tree_Get_0) (f := tree_Get_l0) (b := tree_Get_b0) (m := []) (fun _ => rfl) (by kernel_rfl) (by kernel_rfl) trivial (by kernel_rfl) (rfOK_no _ (by kernel_rfl)) (tree_Get_b0_eq)
theorem tree_Get_ok : EntOK Tryz.prog (AE_tree_Get) :=
  fun_soundD (F := (AF_tree_Get)) (Fd := (AFd_tree_Get)) (L := AL_tree_Get_d) (fd := 74) (fnd := Tryz.f74) (b := tree_Get_db) (g := tree_Get_dl) Atab (tree_Get_hG) Amixed (fn := Tryz.f25) (m := [(0, loopAt (bodyOf Tryz.f25) 0)]) Tryz.func25 (by kernel_rfl) (by kernel_rfl) (by kernel_rfl) ⟨tree_Get_la0, trivial⟩ (fun _ => rfl) (by kernel_rfl) Atab (tree_Get_hG) Tryz.func74 (by kernel_rfl) (by kernel_rfl) (by kernel_rfl) (by kernel_rfl) (tree_Get_db_eq) (by kernel_rfl) (tree_Get_eq)
theorem tree_Get_ox : EntX Tryz.prog (AE_tree_Get) := (tree_Get_ok).x (by kernel_rfl)
def AS_cost_Reads : Shape := ⟨[(0, (.dat tapi_Tree)), (1, (.dat .str))], []⟩
def AZ_cost_Reads : Shape := ⟨[(0, (.dat (.int .i64))), (1, (.dat (.int .i64)))], []⟩
def AE_cost_Reads : Ent := ⟨16, AS_cost_Reads, AZ_cost_Reads, cost_Reads⟩
def AF_cost_Reads : Fx := mkFx Acx (lookupG [AE_tree_Get]) (fun k st => .fail) 0
theorem cost_Reads_eq (s : AS_cost_Reads.ty.den) : @Eq (Option AZ_cost_Reads.ty.den) (evFn (AF_cost_Reads) Tryz.f16 AS_cost_Reads AZ_cost_Reads s).val (cost_Reads s) := by kernel_rfl
theorem cost_Reads_hG : GSound Tryz.prog (AF_cost_Reads).Γ := ents_sound ⟨(tree_Get_ox), trivial⟩
theorem cost_Reads_ok : EntOK Tryz.prog (AE_cost_Reads) :=
  fun_sound (F := (AF_cost_Reads)) Atab (cost_Reads_hG) Amixed (fn := Tryz.f16) (m := []) Tryz.func16 (by kernel_rfl) (by kernel_rfl) (by kernel_rfl) trivial (rfOK_no _ (by kernel_rfl)) (by kernel_rfl) (cost_Reads_eq)
theorem cost_Reads_ox : EntX Tryz.prog (AE_cost_Reads) := (cost_Reads_ok).x (by kernel_rfl)
def AL_slices_Equal_api_Pair_api_Pair_0 : Lp := ⟨⟨[(0, (.dat (.list tapi_Pair))), (1, (.dat (.list tapi_Pair))), (12, (.dat (.int .i64))), (13, (.dat (.int .i64)))], []⟩, .ret, ⟨[(4, (.dat .bool))], []⟩, (.exit 0), ⟨[], []⟩⟩
def AS_slices_Equal_api_Pair_api_Pair : Shape := ⟨[(0, (.dat (.list tapi_Pair))), (1, (.dat (.list tapi_Pair)))], []⟩
def AZ_slices_Equal_api_Pair_api_Pair : Shape := ⟨[(0, (.dat .bool))], []⟩
def AE_slices_Equal_api_Pair_api_Pair : Ent := ⟨120, AS_slices_Equal_api_Pair_api_Pair, AZ_slices_Equal_api_Pair_api_Pair, slices_Equal_api_Pair_api_Pair⟩
def AF_slices_Equal_api_Pair_api_Pair : Fx := mkFx Acx (lookupG []) (fun k st => bif Nat.beq k 0 then AL_slices_Equal_api_Pair_api_Pair_0.go (slices_Equal_api_Pair_api_Pair_l0) 0 st else .fail) 0
theorem slices_Equal_api_Pair_api_Pair_b0_eq (s : AL_slices_Equal_api_Pair_api_Pair_0.S.ty.den) : @Eq (Option (AL_slices_Equal_api_Pair_api_Pair_0.S.ty.den ⊕ AL_slices_Equal_api_Pair_api_Pair_0.Out)) (AL_slices_Equal_api_Pair_api_Pair_0.body (AF_slices_Equal_api_Pair_api_Pair) (loopAt (bodyOf Tryz.f120) 0) 0 s).val (slices_Equal_api_Pair_api_Pair_b0 s) := by kernel_rfl
theorem slices_Equal_api_Pair_api_Pair_eq (s : AS_slices_Equal_api_Pair_api_Pair.ty.den) : @Eq (Option AZ_slices_Equal_api_Pair_api_Pair.ty.den) (evFn (AF_slices_Equal_api_Pair_api_Pair) Tryz.f120 AS_slices_Equal_api_Pair_api_Pair AZ_slices_Equal_api_Pair_api_Pair s).val (slices_Equal_api_Pair_api_Pair s) := by kernel_rfl
theorem slices_Equal_api_Pair_api_Pair_hG : GSound Tryz.prog (AF_slices_Equal_api_Pair_api_Pair).Γ := ents_sound trivial
theorem slices_Equal_api_Pair_api_Pair_la0 : LamOK Tryz.prog (AF_slices_Equal_api_Pair_api_Pair) Tryz.f120.ntmps 0 (loopAt (bodyOf Tryz.f120) 0) :=
  lam_sound Atab (slices_Equal_api_Pair_api_Pair_hG) Amixed (L := AL_slices_Equal_api_Pair_api_Pair_0) (f := slices_Equal_api_Pair_api_Pair_l0) (b := slices_Equal_api_Pair_api_Pair_b0) (m := []) (fun _ => rfl) (by kernel_rfl) (by kernel_rfl) trivial (by kernel_rfl) (rfOK_no _ (by kernel_rfl)) (slices_Equal_api_Pair_api_Pair_b0_eq)
theorem slices_Equal_api_Pair_api_Pair_ok : EntOK Tryz.prog (AE_slices_Equal_api_Pair_api_Pair) :=
  fun_sound (F := (AF_slices_Equal_api_Pair_api_Pair)) Atab (slices_Equal_api_Pair_api_Pair_hG) Amixed (fn := Tryz.f120) (m := [(0, loopAt (bodyOf Tryz.f120) 0)]) Tryz.func120 (by kernel_rfl) (by kernel_rfl) (by kernel_rfl) ⟨slices_Equal_api_Pair_api_Pair_la0, trivial⟩ (rfOK_no _ (by kernel_rfl)) (by kernel_rfl) (slices_Equal_api_Pair_api_Pair_eq)
theorem slices_Equal_api_Pair_api_Pair_ox : EntX Tryz.prog (AE_slices_Equal_api_Pair_api_Pair) := (slices_Equal_api_Pair_api_Pair_ok).x (by kernel_rfl)
def AL_slices_Equal_string_string_0 : Lp := ⟨⟨[(0, (.dat (.list .str))), (1, (.dat (.list .str))), (12, (.dat (.int .i64))), (13, (.dat (.int .i64)))], []⟩, .ret, ⟨[(4, (.dat .bool))], []⟩, (.exit 0), ⟨[], []⟩⟩
def AS_slices_Equal_string_string : Shape := ⟨[(0, (.dat (.list .str))), (1, (.dat (.list .str)))], []⟩
def AZ_slices_Equal_string_string : Shape := ⟨[(0, (.dat .bool))], []⟩
def AE_slices_Equal_string_string : Ent := ⟨121, AS_slices_Equal_string_string, AZ_slices_Equal_string_string, slices_Equal_string_string⟩
def AF_slices_Equal_string_string : Fx := mkFx Acx (lookupG []) (fun k st => bif Nat.beq k 0 then AL_slices_Equal_string_string_0.go (slices_Equal_string_string_l0) 0 st else .fail) 0
theorem slices_Equal_string_string_b0_eq (s : AL_slices_Equal_string_string_0.S.ty.den) : @Eq (Option (AL_slices_Equal_string_string_0.S.ty.den ⊕ AL_slices_Equal_string_string_0.Out)) (AL_slices_Equal_string_string_0.body (AF_slices_Equal_string_string) (loopAt (bodyOf Tryz.f121) 0) 0 s).val (slices_Equal_string_string_b0 s) := by kernel_rfl
theorem slices_Equal_string_string_eq (s : AS_slices_Equal_string_string.ty.den) : @Eq (Option AZ_slices_Equal_string_string.ty.den) (evFn (AF_slices_Equal_string_string) Tryz.f121 AS_slices_Equal_string_string AZ_slices_Equal_string_string s).val (slices_Equal_string_string s) := by kernel_rfl
theorem slices_Equal_string_string_hG : GSound Tryz.prog (AF_slices_Equal_string_string).Γ := ents_sound trivial
theorem slices_Equal_string_string_la0 : LamOK Tryz.prog (AF_slices_Equal_string_string) Tryz.f121.ntmps 0 (loopAt (bodyOf Tryz.f121) 0) :=
  lam_sound Atab (slices_Equal_string_string_hG) Amixed (L := AL_slices_Equal_string_string_0) (f := slices_Equal_string_string_l0) (b := slices_Equal_string_string_b0) (m := []) (fun _ => rfl) (by kernel_rfl) (by kernel_rfl) trivial (by kernel_rfl) (rfOK_no _ (by kernel_rfl)) (slices_Equal_string_string_b0_eq)
theorem slices_Equal_string_string_ok : EntOK Tryz.prog (AE_slices_Equal_string_string) :=
  fun_sound (F := (AF_slices_Equal_string_string)) Atab (slices_Equal_string_string_hG) Amixed (fn := Tryz.f121) (m := [(0, loopAt (bodyOf Tryz.f121) 0)]) Tryz.func121 (by kernel_rfl) (by kernel_rfl) (by kernel_rfl) ⟨slices_Equal_string_string_la0, trivial⟩ (rfOK_no _ (by kernel_rfl)) (by kernel_rfl) (slices_Equal_string_string_eq)
theorem slices_Equal_string_string_ox : EntX Tryz.prog (AE_slices_Equal_string_string) := (slices_Equal_string_string_ok).x (by kernel_rfl)
def AL_slices_Equal_int_int_0 : Lp := ⟨⟨[(0, (.dat (.list (.int .i64)))), (1, (.dat (.list (.int .i64)))), (12, (.dat (.int .i64))), (13, (.dat (.int .i64)))], []⟩, .ret, ⟨[(4, (.dat .bool))], []⟩, (.exit 0), ⟨[], []⟩⟩
def AS_slices_Equal_int_int : Shape := ⟨[(0, (.dat (.list (.int .i64)))), (1, (.dat (.list (.int .i64))))], []⟩
def AZ_slices_Equal_int_int : Shape := ⟨[(0, (.dat .bool))], []⟩
def AE_slices_Equal_int_int : Ent := ⟨122, AS_slices_Equal_int_int, AZ_slices_Equal_int_int, slices_Equal_int_int⟩
def AF_slices_Equal_int_int : Fx := mkFx Acx (lookupG []) (fun k st => bif Nat.beq k 0 then AL_slices_Equal_int_int_0.go (slices_Equal_int_int_l0) 0 st else .fail) 0
theorem slices_Equal_int_int_b0_eq (s : AL_slices_Equal_int_int_0.S.ty.den) : @Eq (Option (AL_slices_Equal_int_int_0.S.ty.den ⊕ AL_slices_Equal_int_int_0.Out)) (AL_slices_Equal_int_int_0.body (AF_slices_Equal_int_int) (loopAt (bodyOf Tryz.f122) 0) 0 s).val (slices_Equal_int_int_b0 s) := by kernel_rfl
theorem slices_Equal_int_int_eq (s : AS_slices_Equal_int_int.ty.den) : @Eq (Option AZ_slices_Equal_int_int.ty.den) (evFn (AF_slices_Equal_int_int) Tryz.f122 AS_slices_Equal_int_int AZ_slices_Equal_int_int s).val (slices_Equal_int_int s) := by kernel_rfl
theorem slices_Equal_int_int_hG : GSound Tryz.prog (AF_slices_Equal_int_int).Γ := ents_sound trivial
theorem slices_Equal_int_int_la0 : LamOK Tryz.prog (AF_slices_Equal_int_int) Tryz.f122.ntmps 0 (loopAt (bodyOf Tryz.f122) 0) :=
  lam_sound Atab (slices_Equal_int_int_hG) Amixed (L := AL_slices_Equal_int_int_0) (f := slices_Equal_int_int_l0) (b := slices_Equal_int_int_b0) (m := []) (fun _ => rfl) (by kernel_rfl) (by kernel_rfl) trivial (by kernel_rfl) (rfOK_no _ (by kernel_rfl)) (slices_Equal_int_int_b0_eq)
theorem slices_Equal_int_int_ok : EntOK Tryz.prog (AE_slices_Equal_int_int) :=
  fun_sound (F := (AF_slices_Equal_int_int)) Atab (slices_Equal_int_int_hG) Amixed (fn := Tryz.f122) (m := [(0, loopAt (bodyOf Tryz.f122) 0)]) Tryz.func122 (by kernel_rfl) (by kernel_rfl) (by kernel_rfl) ⟨slices_Equal_int_int_la0, trivial⟩ (rfOK_no _ (by kernel_rfl)) (by kernel_rfl) (slices_Equal_int_int_eq)
theorem slices_Equal_int_int_ox : EntX Tryz.prog (AE_slices_Equal_int_int) := (slices_Equal_int_int_ok).x (by kernel_rfl)
def AL_slices_Equal_api_Sum_api_Sum_0 : Lp := ⟨⟨[(0, (.dat (.list tapi_Sum))), (1, (.dat (.list tapi_Sum))), (12, (.dat (.int .i64))), (13, (.dat (.int .i64)))], []⟩, .ret, ⟨[(4, (.dat .bool))], []⟩, (.exit 0), ⟨[], []⟩⟩
def AS_slices_Equal_api_Sum_api_Sum : Shape := ⟨[(0, (.dat (.list tapi_Sum))), (1, (.dat (.list tapi_Sum)))], []⟩
def AZ_slices_Equal_api_Sum_api_Sum : Shape := ⟨[(0, (.dat .bool))], []⟩
def AE_slices_Equal_api_Sum_api_Sum : Ent := ⟨123, AS_slices_Equal_api_Sum_api_Sum, AZ_slices_Equal_api_Sum_api_Sum, slices_Equal_api_Sum_api_Sum⟩
def AF_slices_Equal_api_Sum_api_Sum : Fx := mkFx Acx (lookupG []) (fun k st => bif Nat.beq k 0 then AL_slices_Equal_api_Sum_api_Sum_0.go (slices_Equal_api_Sum_api_Sum_l0) 0 st else .fail) 0
theorem slices_Equal_api_Sum_api_Sum_b0_eq (s : AL_slices_Equal_api_Sum_api_Sum_0.S.ty.den) : @Eq (Option (AL_slices_Equal_api_Sum_api_Sum_0.S.ty.den ⊕ AL_slices_Equal_api_Sum_api_Sum_0.Out)) (AL_slices_Equal_api_Sum_api_Sum_0.body (AF_slices_Equal_api_Sum_api_Sum) (loopAt (bodyOf Tryz.f123) 0) 0 s).val (slices_Equal_api_Sum_api_Sum_b0 s) := by kernel_rfl
theorem slices_Equal_api_Sum_api_Sum_eq (s : AS_slices_Equal_api_Sum_api_Sum.ty.den) : @Eq (Option AZ_slices_Equal_api_Sum_api_Sum.ty.den) (evFn (AF_slices_Equal_api_Sum_api_Sum) Tryz.f123 AS_slices_Equal_api_Sum_api_Sum AZ_slices_Equal_api_Sum_api_Sum s).val (slices_Equal_api_Sum_api_Sum s) := by kernel_rfl
theorem slices_Equal_api_Sum_api_Sum_hG : GSound Tryz.prog (AF_slices_Equal_api_Sum_api_Sum).Γ := ents_sound trivial
theorem slices_Equal_api_Sum_api_Sum_la0 : LamOK Tryz.prog (AF_slices_Equal_api_Sum_api_Sum) Tryz.f123.ntmps 0 (loopAt (bodyOf Tryz.f123) 0) :=
  lam_sound Atab (slices_Equal_api_Sum_api_Sum_hG) Amixed (L := AL_slices_Equal_api_Sum_api_Sum_0) (f := slices_Equal_api_Sum_api_Sum_l0) (b := slices_Equal_api_Sum_api_Sum_b0) (m := []) (fun _ => rfl) (by kernel_rfl) (by kernel_rfl) trivial (by kernel_rfl) (rfOK_no _ (by kernel_rfl)) (slices_Equal_api_Sum_api_Sum_b0_eq)
theorem slices_Equal_api_Sum_api_Sum_ok : EntOK Tryz.prog (AE_slices_Equal_api_Sum_api_Sum) :=
  fun_sound (F := (AF_slices_Equal_api_Sum_api_Sum)) Atab (slices_Equal_api_Sum_api_Sum_hG) Amixed (fn := Tryz.f123) (m := [(0, loopAt (bodyOf Tryz.f123) 0)]) Tryz.func123 (by kernel_rfl) (by kernel_rfl) (by kernel_rfl) ⟨slices_Equal_api_Sum_api_Sum_la0, trivial⟩ (rfOK_no _ (by kernel_rfl)) (by kernel_rfl) (slices_Equal_api_Sum_api_Sum_eq)
theorem slices_Equal_api_Sum_api_Sum_ox : EntX Tryz.prog (AE_slices_Equal_api_Sum_api_Sum) := (slices_Equal_api_Sum_api_Sum_ok).x (by kernel_rfl)
def AL_slices_Equal_api_Msg_api_Msg_0 : Lp := ⟨⟨[(0, (.dat (.list tapi_Msg))), (1, (.dat (.list tapi_Msg))), (12, (.dat (.int .i64))), (13, (.dat (.int .i64)))], []⟩, .ret, ⟨[(4, (.dat .bool))], []⟩, (.exit 0), ⟨[], []⟩⟩
def AS_slices_Equal_api_Msg_api_Msg : Shape := ⟨[(0, (.dat (.list tapi_Msg))), (1, (.dat (.list tapi_Msg)))], []⟩
def AZ_slices_Equal_api_Msg_api_Msg : Shape := ⟨[(0, (.dat .bool))], []⟩
def AE_slices_Equal_api_Msg_api_Msg : Ent := ⟨124, AS_slices_Equal_api_Msg_api_Msg, AZ_slices_Equal_api_Msg_api_Msg, slices_Equal_api_Msg_api_Msg⟩
def AF_slices_Equal_api_Msg_api_Msg : Fx := mkFx Acx (lookupG []) (fun k st => bif Nat.beq k 0 then AL_slices_Equal_api_Msg_api_Msg_0.go (slices_Equal_api_Msg_api_Msg_l0) 0 st else .fail) 0
theorem slices_Equal_api_Msg_api_Msg_b0_eq (s : AL_slices_Equal_api_Msg_api_Msg_0.S.ty.den) : @Eq (Option (AL_slices_Equal_api_Msg_api_Msg_0.S.ty.den ⊕ AL_slices_Equal_api_Msg_api_Msg_0.Out)) (AL_slices_Equal_api_Msg_api_Msg_0.body (AF_slices_Equal_api_Msg_api_Msg) (loopAt (bodyOf Tryz.f124) 0) 0 s).val (slices_Equal_api_Msg_api_Msg_b0 s) := by kernel_rfl
theorem slices_Equal_api_Msg_api_Msg_eq (s : AS_slices_Equal_api_Msg_api_Msg.ty.den) : @Eq (Option AZ_slices_Equal_api_Msg_api_Msg.ty.den) (evFn (AF_slices_Equal_api_Msg_api_Msg) Tryz.f124 AS_slices_Equal_api_Msg_api_Msg AZ_slices_Equal_api_Msg_api_Msg s).val (slices_Equal_api_Msg_api_Msg s) := by kernel_rfl
theorem slices_Equal_api_Msg_api_Msg_hG : GSound Tryz.prog (AF_slices_Equal_api_Msg_api_Msg).Γ := ents_sound trivial
theorem slices_Equal_api_Msg_api_Msg_la0 : LamOK Tryz.prog (AF_slices_Equal_api_Msg_api_Msg) Tryz.f124.ntmps 0 (loopAt (bodyOf Tryz.f124) 0) :=
  lam_sound Atab (slices_Equal_api_Msg_api_Msg_hG) Amixed (L := AL_slices_Equal_api_Msg_api_Msg_0) (f := slices_Equal_api_Msg_api_Msg_l0) (b := slices_Equal_api_Msg_api_Msg_b0) (m := []) (fun _ => rfl) (by kernel_rfl) (by kernel_rfl) trivial (by kernel_rfl) (rfOK_no _ (by kernel_rfl)) (slices_Equal_api_Msg_api_Msg_b0_eq)
theorem slices_Equal_api_Msg_api_Msg_ok : EntOK Tryz.prog (AE_slices_Equal_api_Msg_api_Msg) :=
  fun_sound (F := (AF_slices_Equal_api_Msg_api_Msg)) Atab (slices_Equal_api_Msg_api_Msg_hG) Amixed (fn := Tryz.f124) (m := [(0, loopAt (bodyOf Tryz.f124) 0)]) Tryz.func124 (by kernel_rfl) (by kernel_rfl) (by kernel_rfl) ⟨slices_Equal_api_Msg_api_Msg_la0, trivial⟩ (rfOK_no _ (by kernel_rfl)) (by kernel_rfl) (slices_Equal_api_Msg_api_Msg_eq)
theorem slices_Equal_api_Msg_api_Msg_ox : EntX Tryz.prog (AE_slices_Equal_api_Msg_api_Msg) := (slices_Equal_api_Msg_api_Msg_ok).x (by kernel_rfl)
def AS_cost_same : Shape := ⟨[(0, (.dat tapi_Node)), (1, (.dat tapi_Node))], []⟩
def AZ_cost_same : Shape := ⟨[(0, (.dat .bool))], []⟩
def AE_cost_same : Ent := ⟨69, AS_cost_same, AZ_cost_same, cost_same⟩
def AF_cost_same : Fx := mkFx Acx (lookupG [AE_slices_Equal_api_Pair_api_Pair, AE_slices_Equal_string_string, AE_slices_Equal_int_int, AE_slices_Equal_api_Sum_api_Sum, AE_slices_Equal_api_Msg_api_Msg]) (fun k st => .fail) 0
theorem cost_same_eq (s : AS_cost_same.ty.den) : @Eq (Option AZ_cost_same.ty.den) (evFn (AF_cost_same) Tryz.f69 AS_cost_same AZ_cost_same s).val (cost_same s) := by kernel_rfl
theorem cost_same_hG : GSound Tryz.prog (AF_cost_same).Γ := ents_sound ⟨(slices_Equal_api_Pair_api_Pair_ox), (slices_Equal_string_string_ox), (slices_Equal_int_int_ox), (slices_Equal_api_Sum_api_Sum_ox), (slices_Equal_api_Msg_api_Msg_ox), trivial⟩
theorem cost_same_ok : EntOK Tryz.prog (AE_cost_same) :=
  fun_sound (F := (AF_cost_same)) Atab (cost_same_hG) Amixed (fn := Tryz.f69) (m := []) Tryz.func69 (by kernel_rfl) (by kernel_rfl) (by kernel_rfl) trivial (rfOK_no _ (by kernel_rfl)) (by kernel_rfl) (cost_same_eq)
theorem cost_same_ox : EntX Tryz.prog (AE_cost_same) := (cost_same_ok).x (by kernel_rfl)
def AL_cost_Written_0 : Lp := ⟨⟨[(2, (.ptr 0 tapi_Pool 0 [])), (5, (.dat (.int .i64))), (9, (.dat (.list tapi_Slot))), (10, (.dat (.int .i64))), (11, (.dat (.int .i64)))], [.box 32 tapi_Pool (.dat tapi_Pool)]⟩, (.exit 0), ⟨[(5, (.dat (.int .i64)))], []⟩, (.exit 80000000), ⟨[], []⟩⟩
def AS_cost_Written : Shape := ⟨[(0, (.dat tapi_Pool)), (1, (.dat tapi_Pool))], []⟩
def AZ_cost_Written : Shape := ⟨[(0, (.dat (.int .i64)))], []⟩
def AE_cost_Written : Ent := ⟨23, AS_cost_Written, AZ_cost_Written, cost_Written⟩
def AF_cost_Written : Fx := mkFx Acx (lookupG [AE_cost_same]) (fun k st => bif Nat.beq k 0 then AL_cost_Written_0.go (cost_Written_l0) 0 st else .fail) 0
theorem cost_Written_b0_eq (s : AL_cost_Written_0.S.ty.den) : @Eq (Option (AL_cost_Written_0.S.ty.den ⊕ AL_cost_Written_0.Out)) (AL_cost_Written_0.body (AF_cost_Written) (loopAt (bodyOf Tryz.f23) 0) 0 s).val (cost_Written_b0 s) := by kernel_rfl
theorem cost_Written_eq (s : AS_cost_Written.ty.den) : @Eq (Option AZ_cost_Written.ty.den) (evFn (AF_cost_Written) Tryz.f23 AS_cost_Written AZ_cost_Written s).val (cost_Written s) := by kernel_rfl
theorem cost_Written_hG : GSound Tryz.prog (AF_cost_Written).Γ := ents_sound ⟨(cost_same_ox), trivial⟩
theorem cost_Written_la0 : LamOK Tryz.prog (AF_cost_Written) Tryz.f23.ntmps 0 (loopAt (bodyOf Tryz.f23) 0) :=
  lam_sound Atab (cost_Written_hG) Amixed (L := AL_cost_Written_0) (f := cost_Written_l0) (b := cost_Written_b0) (m := []) (fun _ => rfl) (by kernel_rfl) (by kernel_rfl) trivial (by kernel_rfl) (rfOK_no _ (by kernel_rfl)) (cost_Written_b0_eq)
theorem cost_Written_ok : EntOK Tryz.prog (AE_cost_Written) :=
  fun_sound (F := (AF_cost_Written)) Atab (cost_Written_hG) Amixed (fn := Tryz.f23) (m := [(0, loopAt (bodyOf Tryz.f23) 0)]) Tryz.func23 (by kernel_rfl) (by kernel_rfl) (by kernel_rfl) ⟨cost_Written_la0, trivial⟩ (rfOK_no _ (by kernel_rfl)) (by kernel_rfl) (cost_Written_eq)
theorem cost_Written_ox : EntX Tryz.prog (AE_cost_Written) := (cost_Written_ok).x (by kernel_rfl)
def AS_cost_bill_write : Shape := ⟨[(0, (.ptr 0 tcost_bill 0 [])), (1, (.dat (.int .i64)))], [.box 125 tcost_bill (.agg [(.agg [(.dat (.int .i64)), (.dat (.int .i64))])])]⟩
def AZ_cost_bill_write : Shape := ⟨[], [.box 125 tcost_bill (.agg [(.agg [(.dat (.int .i64)), (.dat (.int .i64))])])]⟩
def AE_cost_bill_write : Ent := ⟨68, AS_cost_bill_write, AZ_cost_bill_write, cost_bill_write⟩
def AF_cost_bill_write : Fx := mkFx Acx (lookupG []) (fun k st => .fail) 1
theorem cost_bill_write_eq (s : AS_cost_bill_write.ty.den) : @Eq (Option AZ_cost_bill_write.ty.den) (evFn (AF_cost_bill_write) Tryz.f68 AS_cost_bill_write AZ_cost_bill_write s).val (cost_bill_write s) := by kernel_rfl
theorem cost_bill_write_hG : GSound Tryz.prog (AF_cost_bill_write).Γ := ents_sound trivial
theorem cost_bill_write_ok : EntOK Tryz.prog (AE_cost_bill_write) :=
  fun_sound (F := (AF_cost_bill_write)) Atab (cost_bill_write_hG) Amixed (fn := Tryz.f68) (m := []) Tryz.func68 (by kernel_rfl) (by kernel_rfl) (by kernel_rfl) trivial (rfOK_no _ (by kernel_rfl)) (by kernel_rfl) (cost_bill_write_eq)
theorem cost_bill_write_ox : EntX Tryz.prog (AE_cost_bill_write) := (cost_bill_write_ok).x (by kernel_rfl)
def AS_cost_Bill : Shape := ⟨[(0, (.dat tapi_Tree)), (1, (.dat tapi_Tree)), (2, (.dat (.int .i64)))], []⟩
def AZ_cost_Bill : Shape := ⟨[(0, (.dat tapi_Bill))], []⟩
def AE_cost_Bill : Ent := ⟨22, AS_cost_Bill, AZ_cost_Bill, cost_Bill⟩
def AF_cost_Bill : Fx := mkFx Acx (lookupG [AE_cost_Written, AE_cost_bill_write]) (fun k st => .fail) 0
theorem cost_Bill_eq (s : AS_cost_Bill.ty.den) : @Eq (Option AZ_cost_Bill.ty.den) (evFn (AF_cost_Bill) Tryz.f22 AS_cost_Bill AZ_cost_Bill s).val (cost_Bill s) := by kernel_rfl
theorem cost_Bill_hG : GSound Tryz.prog (AF_cost_Bill).Γ := ents_sound ⟨(cost_Written_ox), (cost_bill_write_ox), trivial⟩
theorem cost_Bill_ok : EntOK Tryz.prog (AE_cost_Bill) :=
  fun_sound (F := (AF_cost_Bill)) Atab (cost_Bill_hG) Amixed (fn := Tryz.f22) (m := []) Tryz.func22 (by kernel_rfl) (by kernel_rfl) (by kernel_rfl) trivial (rfOK_no _ (by kernel_rfl)) (by kernel_rfl) (cost_Bill_eq)
theorem cost_Bill_ox : EntX Tryz.prog (AE_cost_Bill) := (cost_Bill_ok).x (by kernel_rfl)
def AS_tree_rightC1 : Shape := ⟨[(0, (.dat (.int .i64))), (1, (.dat (.int .i64))), (2, (.dat (.int .i64)))], []⟩
def AZ_tree_rightC1 : Shape := ⟨[(0, (.dat .bool))], []⟩
def AE_tree_rightC1 : Ent := ⟨155, AS_tree_rightC1, AZ_tree_rightC1, tree_rightC1⟩
def AF_tree_rightC1 : Fx := mkFx Acx (lookupG []) (fun k st => .fail) 0
theorem tree_rightC1_eq (s : AS_tree_rightC1.ty.den) : @Eq (Option AZ_tree_rightC1.ty.den) (evFn (AF_tree_rightC1) Tryz.f155 AS_tree_rightC1 AZ_tree_rightC1 s).val (tree_rightC1 s) := by kernel_rfl
theorem tree_rightC1_hG : GSound Tryz.prog (AF_tree_rightC1).Γ := ents_sound trivial
theorem tree_rightC1_ok : EntOK Tryz.prog (AE_tree_rightC1) :=
  fun_sound (F := (AF_tree_rightC1)) Atab (tree_rightC1_hG) Amixed (fn := Tryz.f155) (m := []) Tryz.func155 (by kernel_rfl) (by kernel_rfl) (by kernel_rfl) trivial (rfOK_no _ (by kernel_rfl)) (by kernel_rfl) (tree_rightC1_eq)
theorem tree_rightC1_ox : EntX Tryz.prog (AE_tree_rightC1) := (tree_rightC1_ok).x (by kernel_rfl)
def AS_tree_right : Shape := ⟨[(0, (.dat tapi_Shape))], []⟩
def AZ_tree_right : Shape := ⟨[(0, (.dat .bool))], []⟩
def AE_tree_right : Ent := ⟨99, AS_tree_right, AZ_tree_right, tree_right⟩
def AF_tree_right : Fx := mkFx Acx (lookupG [AE_tree_rightC1]) (fun k st => .fail) 0
theorem tree_right_eq (s : AS_tree_right.ty.den) : @Eq (Option AZ_tree_right.ty.den) (evFn (AF_tree_right) Tryz.f99 AS_tree_right AZ_tree_right s).val (tree_right s) := by kernel_rfl
theorem tree_right_hG : GSound Tryz.prog (AF_tree_right).Γ := ents_sound ⟨(tree_rightC1_ox), trivial⟩
theorem tree_right_ok : EntOK Tryz.prog (AE_tree_right) :=
  fun_sound (F := (AF_tree_right)) Atab (tree_right_hG) Amixed (fn := Tryz.f99) (m := []) Tryz.func99 (by kernel_rfl) (by kernel_rfl) (by kernel_rfl) trivial (rfOK_no _ (by kernel_rfl)) (by kernel_rfl) (tree_right_eq)
theorem tree_right_ox : EntX Tryz.prog (AE_tree_right) := (tree_right_ok).x (by kernel_rfl)
def AS_pool_AddC1 : Shape := ⟨[(0, (.dat tapi_Slot))], []⟩
def AZ_pool_AddC1 : Shape := ⟨[(0, (.dat .bool))], []⟩
def AE_pool_AddC1 : Ent := ⟨132, AS_pool_AddC1, AZ_pool_AddC1, pool_AddC1⟩
def AF_pool_AddC1 : Fx := mkFx Acx (lookupG []) (fun k st => .fail) 0
theorem pool_AddC1_eq (s : AS_pool_AddC1.ty.den) : @Eq (Option AZ_pool_AddC1.ty.den) (evFn (AF_pool_AddC1) Tryz.f132 AS_pool_AddC1 AZ_pool_AddC1 s).val (pool_AddC1 s) := by kernel_rfl
theorem pool_AddC1_hG : GSound Tryz.prog (AF_pool_AddC1).Γ := ents_sound trivial
theorem pool_AddC1_ok : EntOK Tryz.prog (AE_pool_AddC1) :=
  fun_sound (F := (AF_pool_AddC1)) Atab (pool_AddC1_hG) Amixed (fn := Tryz.f132) (m := []) Tryz.func132 (by kernel_rfl) (by kernel_rfl) (by kernel_rfl) trivial (rfOK_no _ (by kernel_rfl)) (by kernel_rfl) (pool_AddC1_eq)
theorem pool_AddC1_ox : EntX Tryz.prog (AE_pool_AddC1) := (pool_AddC1_ok).x (by kernel_rfl)
def AL_slices_IndexFunc_api_Slot_api_Slot_0 : Lp := ⟨⟨[(0, (.dat (.list tapi_Slot))), (1, (.fn 132 [] [])), (7, (.dat (.int .i64))), (8, (.dat (.int .i64)))], []⟩, .ret, ⟨[(4, (.dat (.int .i64)))], []⟩, (.exit 0), ⟨[], []⟩⟩
def AS_slices_IndexFunc_api_Slot_api_Slot : Shape := ⟨[(0, (.dat (.list tapi_Slot))), (1, (.fn 132 [] []))], []⟩
def AZ_slices_IndexFunc_api_Slot_api_Slot : Shape := ⟨[(0, (.dat (.int .i64)))], []⟩
def AE_slices_IndexFunc_api_Slot_api_Slot : Ent := ⟨131, AS_slices_IndexFunc_api_Slot_api_Slot, AZ_slices_IndexFunc_api_Slot_api_Slot, slices_IndexFunc_api_Slot_api_Slot⟩
def AF_slices_IndexFunc_api_Slot_api_Slot : Fx := mkFx Acx (lookupG [AE_pool_AddC1]) (fun k st => bif Nat.beq k 0 then AL_slices_IndexFunc_api_Slot_api_Slot_0.go (slices_IndexFunc_api_Slot_api_Slot_l0) 0 st else .fail) 0
theorem slices_IndexFunc_api_Slot_api_Slot_b0_eq (s : AL_slices_IndexFunc_api_Slot_api_Slot_0.S.ty.den) : @Eq (Option (AL_slices_IndexFunc_api_Slot_api_Slot_0.S.ty.den ⊕ AL_slices_IndexFunc_api_Slot_api_Slot_0.Out)) (AL_slices_IndexFunc_api_Slot_api_Slot_0.body (AF_slices_IndexFunc_api_Slot_api_Slot) (loopAt (bodyOf Tryz.f131) 0) 0 s).val (slices_IndexFunc_api_Slot_api_Slot_b0 s) := by kernel_rfl
theorem slices_IndexFunc_api_Slot_api_Slot_eq (s : AS_slices_IndexFunc_api_Slot_api_Slot.ty.den) : @Eq (Option AZ_slices_IndexFunc_api_Slot_api_Slot.ty.den) (evFn (AF_slices_IndexFunc_api_Slot_api_Slot) Tryz.f131 AS_slices_IndexFunc_api_Slot_api_Slot AZ_slices_IndexFunc_api_Slot_api_Slot s).val (slices_IndexFunc_api_Slot_api_Slot s) := by kernel_rfl
theorem slices_IndexFunc_api_Slot_api_Slot_hG : GSound Tryz.prog (AF_slices_IndexFunc_api_Slot_api_Slot).Γ := ents_sound ⟨(pool_AddC1_ox), trivial⟩
theorem slices_IndexFunc_api_Slot_api_Slot_la0 : LamOK Tryz.prog (AF_slices_IndexFunc_api_Slot_api_Slot) Tryz.f131.ntmps 0 (loopAt (bodyOf Tryz.f131) 0) :=
  lam_sound Atab (slices_IndexFunc_api_Slot_api_Slot_hG) Amixed (L := AL_slices_IndexFunc_api_Slot_api_Slot_0) (f := slices_IndexFunc_api_Slot_api_Slot_l0) (b := slices_IndexFunc_api_Slot_api_Slot_b0) (m := []) (fun _ => rfl) (by kernel_rfl) (by kernel_rfl) trivial (by kernel_rfl) (rfOK_no _ (by kernel_rfl)) (slices_IndexFunc_api_Slot_api_Slot_b0_eq)
theorem slices_IndexFunc_api_Slot_api_Slot_ok : EntOK Tryz.prog (AE_slices_IndexFunc_api_Slot_api_Slot) :=
  fun_sound (F := (AF_slices_IndexFunc_api_Slot_api_Slot)) Atab (slices_IndexFunc_api_Slot_api_Slot_hG) Amixed (fn := Tryz.f131) (m := [(0, loopAt (bodyOf Tryz.f131) 0)]) Tryz.func131 (by kernel_rfl) (by kernel_rfl) (by kernel_rfl) ⟨slices_IndexFunc_api_Slot_api_Slot_la0, trivial⟩ (rfOK_no _ (by kernel_rfl)) (by kernel_rfl) (slices_IndexFunc_api_Slot_api_Slot_eq)
theorem slices_IndexFunc_api_Slot_api_Slot_ox : EntX Tryz.prog (AE_slices_IndexFunc_api_Slot_api_Slot) := (slices_IndexFunc_api_Slot_api_Slot_ok).x (by kernel_rfl)
def AS_pool_clone : Shape := ⟨[(0, (.dat tapi_Pool))], []⟩
def AZ_pool_clone : Shape := ⟨[(0, (.agg [(.own tapi_Slot 0)]))], [.arr 100 tapi_Slot false]⟩
def AE_pool_clone : Ent := ⟨133, AS_pool_clone, AZ_pool_clone, pool_clone⟩
def AF_pool_clone : Fx := mkFx Acx (lookupG []) (fun k st => .fail) 0
theorem pool_clone_eq (s : AS_pool_clone.ty.den) : @Eq (Option AZ_pool_clone.ty.den) (evFn (AF_pool_clone) Tryz.f133 AS_pool_clone AZ_pool_clone s).val (pool_clone s) := by kernel_rfl
theorem pool_clone_hG : GSound Tryz.prog (AF_pool_clone).Γ := ents_sound trivial
theorem pool_clone_ok : EntOK Tryz.prog (AE_pool_clone) :=
  fun_sound (F := (AF_pool_clone)) Atab (pool_clone_hG) Amixed (fn := Tryz.f133) (m := []) Tryz.func133 (by kernel_rfl) (by kernel_rfl) (by kernel_rfl) trivial (rfOK_no _ (by kernel_rfl)) (by kernel_rfl) (pool_clone_eq)
theorem pool_clone_ox : EntX Tryz.prog (AE_pool_clone) := (pool_clone_ok).x (by kernel_rfl)
def AL_pool_Add_0 : Lp := ⟨⟨[(2, (.ptr 0 tapi_Pool 0 [])), (3, (.ptr 1 tapi_Node 0 [])), (4, (.ptr 2 tapi_Pool 0 [])), (14, (.dat (.list (.int .i64)))), (15, (.dat (.int .i64))), (16, (.dat (.int .i64)))], [.box 32 tapi_Pool (.dat tapi_Pool), .box 98 tapi_Node (.dat tapi_Node), .box 32 tapi_Pool (.agg [(.dat (.list tapi_Slot))])]⟩, .ret, ⟨[(4, (.ptr 0 tapi_Pool 0 [])), (5, (.dat (.int .i64))), (6, (.dat (.int .i64)))], [.box 32 tapi_Pool (.dat tapi_Pool)]⟩, (.exit 0), ⟨[(2, (.ptr 0 tapi_Pool 0 [])), (3, (.ptr 1 tapi_Node 0 [])), (4, (.ptr 2 tapi_Pool 0 []))], [.box 32 tapi_Pool (.dat tapi_Pool), .box 98 tapi_Node (.dat tapi_Node), .box 32 tapi_Pool (.agg [(.dat (.list tapi_Slot))])]⟩⟩
def AL_pool_Add_1 : Lp := ⟨⟨[(4, (.ptr 0 tapi_Pool 0 [])), (9, (.dat (.int .i64))), (10, (.ptr 1 tapi_Pool 0 [])), (57, (.dat (.list (.int .i64)))), (58, (.dat (.int .i64))), (59, (.dat (.int .i64)))], [.box 32 tapi_Pool (.agg [(.dat (.list tapi_Slot))]), .box 32 tapi_Pool (.agg [(.own tapi_Slot 2)]), .arr 100 tapi_Slot false]⟩, (.exit 2), ⟨[(4, (.ptr 0 tapi_Pool 0 [])), (9, (.dat (.int .i64))), (10, (.ptr 1 tapi_Pool 0 []))], [.box 32 tapi_Pool (.agg [(.dat (.list tapi_Slot))]), .box 32 tapi_Pool (.agg [(.own tapi_Slot 2)]), .arr 100 tapi_Slot false]⟩, (.exit 80000002), ⟨[], []⟩⟩
def AS_pool_Add : Shape := ⟨[(0, (.dat tapi_Pool)), (1, (.dat tapi_Node))], []⟩
def AZ_pool_Add : Shape := ⟨[(0, (.dat tapi_Pool)), (1, (.dat (.int .i64))), (2, (.dat (.int .i64)))], []⟩
def AE_pool_Add : Ent := ⟨86, AS_pool_Add, AZ_pool_Add, pool_Add⟩
def AF_pool_Add : Fx := mkFx Acx (lookupG [AE_pool_used, AE_slices_IndexFunc_api_Slot_api_Slot, AE_pool_clone]) (fun k st => bif Nat.beq k 0 then AL_pool_Add_0.go (pool_Add_l0) 0 st else bif Nat.beq k 2 then AL_pool_Add_1.go (pool_Add_l1) 0 st else .fail) 0
theorem pool_Add_b0_eq (s : AL_pool_Add_0.S.ty.den) : @Eq (Option (AL_pool_Add_0.S.ty.den ⊕ AL_pool_Add_0.Out)) (AL_pool_Add_0.body (AF_pool_Add) (loopAt (bodyOf Tryz.f86) 0) 0 s).val (pool_Add_b0 s) := by kernel_rfl
theorem pool_Add_b1_eq (s : AL_pool_Add_1.S.ty.den) : @Eq (Option (AL_pool_Add_1.S.ty.den ⊕ AL_pool_Add_1.Out)) (AL_pool_Add_1.body (AF_pool_Add) (loopAt (bodyOf Tryz.f86) 1) 2 s).val (pool_Add_b1 s) := by kernel_rfl
theorem pool_Add_eq (s : AS_pool_Add.ty.den) : @Eq (Option AZ_pool_Add.ty.den) (evFn (AF_pool_Add) Tryz.f86 AS_pool_Add AZ_pool_Add s).val (pool_Add s) := by kernel_rfl
theorem pool_Add_hG : GSound Tryz.prog (AF_pool_Add).Γ := ents_sound ⟨(pool_used_ox), (slices_IndexFunc_api_Slot_api_Slot_ox), (pool_clone_ox), trivial⟩
theorem pool_Add_la0 : LamOK Tryz.prog (AF_pool_Add) Tryz.f86.ntmps 0 (loopAt (bodyOf Tryz.f86) 0) :=
  lam_sound Atab (pool_Add_hG) Amixed (L := AL_pool_Add_0) (f := pool_Add_l0) (b := pool_Add_b0) (m := []) (fun _ => rfl) (by kernel_rfl) (by kernel_rfl) trivial (by kernel_rfl) (rfOK_no _ (by kernel_rfl)) (pool_Add_b0_eq)
theorem pool_Add_la1 : LamOK Tryz.prog (AF_pool_Add) Tryz.f86.ntmps 2 (loopAt (bodyOf Tryz.f86) 1) :=
  lam_sound Atab (pool_Add_hG) Amixed (L := AL_pool_Add_1) (f := pool_Add_l1) (b := pool_Add_b1) (m := []) (fun _ => rfl) (by kernel_rfl) (by kernel_rfl) trivial (by kernel_rfl) (rfOK_no _ (by kernel_rfl)) (pool_Add_b1_eq)
theorem pool_Add_ok : EntOK Tryz.prog (AE_pool_Add) :=
  fun_sound (F := (AF_pool_Add)) Atab (pool_Add_hG) Amixed (fn := Tryz.f86) (m := [(0, loopAt (bodyOf Tryz.f86) 0), (2, loopAt (bodyOf Tryz.f86) 1)]) Tryz.func86 (by kernel_rfl) (by kernel_rfl) (by kernel_rfl) ⟨pool_Add_la0, pool_Add_la1, trivial⟩ (rfOK_no _ (by kernel_rfl)) (by kernel_rfl) (pool_Add_eq)
theorem pool_Add_ox : EntX Tryz.prog (AE_pool_Add) := (pool_Add_ok).x (by kernel_rfl)
def AS_tree_New : Shape := ⟨[(0, (.dat tapi_Shape))], []⟩
def AZ_tree_New : Shape := ⟨[(0, (.dat tapi_Tree)), (1, (.dat (.int .i64)))], []⟩
def AE_tree_New : Ent := ⟨50, AS_tree_New, AZ_tree_New, tree_New⟩
def AF_tree_New : Fx := mkFx Acx (lookupG [AE_tree_right, AE_pool_Add]) (fun k st => .fail) 0
theorem tree_New_eq (s : AS_tree_New.ty.den) : @Eq (Option AZ_tree_New.ty.den) (evFn (AF_tree_New) Tryz.f50 AS_tree_New AZ_tree_New s).val (tree_New s) := by kernel_rfl
theorem tree_New_hG : GSound Tryz.prog (AF_tree_New).Γ := ents_sound ⟨(tree_right_ox), (pool_Add_ox), trivial⟩
theorem tree_New_ok : EntOK Tryz.prog (AE_tree_New) :=
  fun_sound (F := (AF_tree_New)) Atab (tree_New_hG) Amixed (fn := Tryz.f50) (m := []) Tryz.func50 (by kernel_rfl) (by kernel_rfl) (by kernel_rfl) trivial (rfOK_no _ (by kernel_rfl)) (by kernel_rfl) (tree_New_eq)
theorem tree_New_ox : EntX Tryz.prog (AE_tree_New) := (tree_New_ok).x (by kernel_rfl)
def AS_cost_Limit : Shape := ⟨[(0, (.dat (.int .i64))), (1, (.dat (.int .i64)))], []⟩
def AZ_cost_Limit : Shape := ⟨[(0, (.dat (.int .i64)))], []⟩
def AE_cost_Limit : Ent := ⟨20, AS_cost_Limit, AZ_cost_Limit, cost_Limit⟩
def AF_cost_Limit : Fx := mkFx Acx (lookupG []) (fun k st => .fail) 0
theorem cost_Limit_eq (s : AS_cost_Limit.ty.den) : @Eq (Option AZ_cost_Limit.ty.den) (evFn (AF_cost_Limit) Tryz.f20 AS_cost_Limit AZ_cost_Limit s).val (cost_Limit s) := by kernel_rfl
theorem cost_Limit_hG : GSound Tryz.prog (AF_cost_Limit).Γ := ents_sound trivial
theorem cost_Limit_ok : EntOK Tryz.prog (AE_cost_Limit) :=
  fun_sound (F := (AF_cost_Limit)) Atab (cost_Limit_hG) Amixed (fn := Tryz.f20) (m := []) Tryz.func20 (by kernel_rfl) (by kernel_rfl) (by kernel_rfl) trivial (rfOK_no _ (by kernel_rfl)) (by kernel_rfl) (cost_Limit_eq)
theorem cost_Limit_ox : EntX Tryz.prog (AE_cost_Limit) := (cost_Limit_ok).x (by kernel_rfl)
def AS_law30_sanity : Shape := ⟨[], []⟩
def AZ_law30_sanity : Shape := ⟨[(0, (.dat .bool))], []⟩
def AE_law30_sanity : Ent := ⟨11, AS_law30_sanity, AZ_law30_sanity, law30_sanity⟩
def AF_law30_sanity (x_ref12_Of : ((List (api_Pair)) × (List (List UInt8)) × (List (api_Msg)) × Unit) → Option ((api_Tree) × Unit)) (x_cost_Weight : ((api_Tree) × Unit) → Option (api_Bill)) (x_cost_Reads : ((api_Tree) × (List UInt8) × Unit) → Option (api_Bill)) (x_cost_Written : ((api_Pool) × (api_Pool) × Unit) → Option ((Int) × Unit)) (x_cost_Bill : ((api_Tree) × (api_Tree) × (Int) × Unit) → Option (cost_bill)) (x_tree_New : ((api_Shape) × Unit) → Option ((api_Tree) × (Int) × Unit)) (x_cost_Limit : (api_Bill) → Option ((Int) × Unit)) : Fx := mkFx Acx (lookupG [⟨49, AS_ref12_Of, AZ_ref12_Of, x_ref12_Of⟩, ⟨18, AS_cost_Weight, AZ_cost_Weight, x_cost_Weight⟩, ⟨16, AS_cost_Reads, AZ_cost_Reads, x_cost_Reads⟩, ⟨23, AS_cost_Written, AZ_cost_Written, x_cost_Written⟩, ⟨22, AS_cost_Bill, AZ_cost_Bill, x_cost_Bill⟩, ⟨50, AS_tree_New, AZ_tree_New, x_tree_New⟩, ⟨20, AS_cost_Limit, AZ_cost_Limit, x_cost_Limit⟩]) (fun k st => .fail) 0
theorem law30_sanity_eq (x_ref12_Of : ((List (api_Pair)) × (List (List UInt8)) × (List (api_Msg)) × Unit) → Option ((api_Tree) × Unit)) (x_cost_Weight : ((api_Tree) × Unit) → Option (api_Bill)) (x_cost_Reads : ((api_Tree) × (List UInt8) × Unit) → Option (api_Bill)) (x_cost_Written : ((api_Pool) × (api_Pool) × Unit) → Option ((Int) × Unit)) (x_cost_Bill : ((api_Tree) × (api_Tree) × (Int) × Unit) → Option (cost_bill)) (x_tree_New : ((api_Shape) × Unit) → Option ((api_Tree) × (Int) × Unit)) (x_cost_Limit : (api_Bill) → Option ((Int) × Unit)) (s : AS_law30_sanity.ty.den) : @Eq (Option AZ_law30_sanity.ty.den) (evFn (AF_law30_sanity x_ref12_Of x_cost_Weight x_cost_Reads x_cost_Written x_cost_Bill x_tree_New x_cost_Limit) Tryz.f11 AS_law30_sanity AZ_law30_sanity s).val (law30_sanity_step x_ref12_Of x_cost_Weight x_cost_Reads x_cost_Written x_cost_Bill x_tree_New x_cost_Limit s) := by kernel_rfl
theorem law30_sanity_hG (x_ref12_Of : ((List (api_Pair)) × (List (List UInt8)) × (List (api_Msg)) × Unit) → Option ((api_Tree) × Unit)) (x_ref12_Of_ok : EntOK Tryz.prog ⟨49, AS_ref12_Of, AZ_ref12_Of, x_ref12_Of⟩) (x_cost_Weight : ((api_Tree) × Unit) → Option (api_Bill)) (x_cost_Weight_ok : EntOK Tryz.prog ⟨18, AS_cost_Weight, AZ_cost_Weight, x_cost_Weight⟩) (x_cost_Reads : ((api_Tree) × (List UInt8) × Unit) → Option (api_Bill)) (x_cost_Reads_ok : EntOK Tryz.prog ⟨16, AS_cost_Reads, AZ_cost_Reads, x_cost_Reads⟩) (x_cost_Written : ((api_Pool) × (api_Pool) × Unit) → Option ((Int) × Unit)) (x_cost_Written_ok : EntOK Tryz.prog ⟨23, AS_cost_Written, AZ_cost_Written, x_cost_Written⟩) (x_cost_Bill : ((api_Tree) × (api_Tree) × (Int) × Unit) → Option (cost_bill)) (x_cost_Bill_ok : EntOK Tryz.prog ⟨22, AS_cost_Bill, AZ_cost_Bill, x_cost_Bill⟩) (x_tree_New : ((api_Shape) × Unit) → Option ((api_Tree) × (Int) × Unit)) (x_tree_New_ok : EntOK Tryz.prog ⟨50, AS_tree_New, AZ_tree_New, x_tree_New⟩) (x_cost_Limit : (api_Bill) → Option ((Int) × Unit)) (x_cost_Limit_ok : EntOK Tryz.prog ⟨20, AS_cost_Limit, AZ_cost_Limit, x_cost_Limit⟩) : GSound Tryz.prog (AF_law30_sanity x_ref12_Of x_cost_Weight x_cost_Reads x_cost_Written x_cost_Bill x_tree_New x_cost_Limit).Γ := ents_sound ⟨(x_ref12_Of_ok.x (by kernel_rfl)), (x_cost_Weight_ok.x (by kernel_rfl)), (x_cost_Reads_ok.x (by kernel_rfl)), (x_cost_Written_ok.x (by kernel_rfl)), (x_cost_Bill_ok.x (by kernel_rfl)), (x_tree_New_ok.x (by kernel_rfl)), (x_cost_Limit_ok.x (by kernel_rfl)), trivial⟩
theorem law30_sanity_step_ok (x_ref12_Of : ((List (api_Pair)) × (List (List UInt8)) × (List (api_Msg)) × Unit) → Option ((api_Tree) × Unit)) (x_ref12_Of_ok : EntOK Tryz.prog ⟨49, AS_ref12_Of, AZ_ref12_Of, x_ref12_Of⟩) (x_cost_Weight : ((api_Tree) × Unit) → Option (api_Bill)) (x_cost_Weight_ok : EntOK Tryz.prog ⟨18, AS_cost_Weight, AZ_cost_Weight, x_cost_Weight⟩) (x_cost_Reads : ((api_Tree) × (List UInt8) × Unit) → Option (api_Bill)) (x_cost_Reads_ok : EntOK Tryz.prog ⟨16, AS_cost_Reads, AZ_cost_Reads, x_cost_Reads⟩) (x_cost_Written : ((api_Pool) × (api_Pool) × Unit) → Option ((Int) × Unit)) (x_cost_Written_ok : EntOK Tryz.prog ⟨23, AS_cost_Written, AZ_cost_Written, x_cost_Written⟩) (x_cost_Bill : ((api_Tree) × (api_Tree) × (Int) × Unit) → Option (cost_bill)) (x_cost_Bill_ok : EntOK Tryz.prog ⟨22, AS_cost_Bill, AZ_cost_Bill, x_cost_Bill⟩) (x_tree_New : ((api_Shape) × Unit) → Option ((api_Tree) × (Int) × Unit)) (x_tree_New_ok : EntOK Tryz.prog ⟨50, AS_tree_New, AZ_tree_New, x_tree_New⟩) (x_cost_Limit : (api_Bill) → Option ((Int) × Unit)) (x_cost_Limit_ok : EntOK Tryz.prog ⟨20, AS_cost_Limit, AZ_cost_Limit, x_cost_Limit⟩) : EntOK Tryz.prog ⟨11, AS_law30_sanity, AZ_law30_sanity, law30_sanity_step x_ref12_Of x_cost_Weight x_cost_Reads x_cost_Written x_cost_Bill x_tree_New x_cost_Limit⟩ :=
  fun_sound (F := (AF_law30_sanity x_ref12_Of x_cost_Weight x_cost_Reads x_cost_Written x_cost_Bill x_tree_New x_cost_Limit)) Atab (law30_sanity_hG x_ref12_Of x_ref12_Of_ok x_cost_Weight x_cost_Weight_ok x_cost_Reads x_cost_Reads_ok x_cost_Written x_cost_Written_ok x_cost_Bill x_cost_Bill_ok x_tree_New x_tree_New_ok x_cost_Limit x_cost_Limit_ok) Amixed (fn := Tryz.f11) (m := []) Tryz.func11 (by kernel_rfl) (by kernel_rfl) (by kernel_rfl) trivial (rfOK_no _ (by kernel_rfl)) (by kernel_rfl) (law30_sanity_eq x_ref12_Of x_cost_Weight x_cost_Reads x_cost_Written x_cost_Bill x_tree_New x_cost_Limit)
theorem law30_sanity_ok : EntOK Tryz.prog AE_law30_sanity := law30_sanity_step_ok ref12_Of ref12_Of_ok cost_Weight cost_Weight_ok cost_Reads cost_Reads_ok cost_Written cost_Written_ok cost_Bill cost_Bill_ok tree_New tree_New_ok cost_Limit cost_Limit_ok
theorem law30_sanity_ox : EntX Tryz.prog (AE_law30_sanity) := (law30_sanity_ok).x (by kernel_rfl)
def AS_ref04_Key : Shape := ⟨[(0, (.dat (.int .u8)))], []⟩
def AZ_ref04_Key : Shape := ⟨[(0, (.dat .str))], []⟩
def AE_ref04_Key : Ent := ⟨15, AS_ref04_Key, AZ_ref04_Key, ref04_Key⟩
def AF_ref04_Key : Fx := mkFx Acx (lookupG []) (fun k st => .fail) 0
theorem ref04_Key_eq (s : AS_ref04_Key.ty.den) : @Eq (Option AZ_ref04_Key.ty.den) (evFn (AF_ref04_Key) Tryz.f15 AS_ref04_Key AZ_ref04_Key s).val (ref04_Key s) := by kernel_rfl
theorem ref04_Key_hG : GSound Tryz.prog (AF_ref04_Key).Γ := ents_sound trivial
theorem ref04_Key_ok : EntOK Tryz.prog (AE_ref04_Key) :=
  fun_sound (F := (AF_ref04_Key)) Atab (ref04_Key_hG) Amixed (fn := Tryz.f15) (m := []) Tryz.func15 (by kernel_rfl) (by kernel_rfl) (by kernel_rfl) trivial (rfOK_no _ (by kernel_rfl)) (by kernel_rfl) (ref04_Key_eq)
theorem ref04_Key_ox : EntX Tryz.prog (AE_ref04_Key) := (ref04_Key_ok).x (by kernel_rfl)
def AS_ref04_Pair : Shape := ⟨[(0, (.dat (.pair (.int .u8) (.pair (.int .u8) (.pair (.int .u8) .unit)))))], []⟩
def AZ_ref04_Pair : Shape := ⟨[(0, (.dat tapi_Pair))], []⟩
def AE_ref04_Pair : Ent := ⟨108, AS_ref04_Pair, AZ_ref04_Pair, ref04_Pair⟩
def AF_ref04_Pair : Fx := mkFx Acx (lookupG [AE_ref04_Key]) (fun k st => .fail) 0
theorem ref04_Pair_eq (s : AS_ref04_Pair.ty.den) : @Eq (Option AZ_ref04_Pair.ty.den) (evFn (AF_ref04_Pair) Tryz.f108 AS_ref04_Pair AZ_ref04_Pair s).val (ref04_Pair s) := by kernel_rfl
theorem ref04_Pair_hG : GSound Tryz.prog (AF_ref04_Pair).Γ := ents_sound ⟨(ref04_Key_ox), trivial⟩
theorem ref04_Pair_ok : EntOK Tryz.prog (AE_ref04_Pair) :=
  fun_sound (F := (AF_ref04_Pair)) Atab (ref04_Pair_hG) Amixed (fn := Tryz.f108) (m := []) Tryz.func108 (by kernel_rfl) (by kernel_rfl) (by kernel_rfl) trivial (rfOK_no _ (by kernel_rfl)) (by kernel_rfl) (ref04_Pair_eq)
theorem ref04_Pair_ox : EntX Tryz.prog (AE_ref04_Pair) := (ref04_Pair_ok).x (by kernel_rfl)

end D
/- Entries, by program. -/
set_option linter.unusedVariables false
set_option maxRecDepth 100000
open Go Go.X Go.Proofs D
namespace D
def AL_ref04_Put_0 : Lp := ⟨⟨[(0, (.dat (.list tapi_Pair))), (3, (.ptr 0 tapi_Pair 0 [])), (5, (.own tapi_Pair 1)), (6, (.dat .bool)), (7, (.dat (.int .i64)))], [.box 54 tapi_Pair (.dat tapi_Pair), .arr 54 tapi_Pair false]⟩, (.exit 0), ⟨[(3, (.ptr 0 tapi_Pair 0 [])), (5, (.own tapi_Pair 1)), (6, (.dat .bool))], [.box 54 tapi_Pair (.dat tapi_Pair), .arr 54 tapi_Pair false]⟩, (.exit 80000000), ⟨[], []⟩⟩
def AS_ref04_Put : Shape := ⟨[(0, (.dat (.list tapi_Pair))), (1, (.dat tapi_Pair))], []⟩
def AZ_ref04_Put : Shape := ⟨[(0, (.own tapi_Pair 0))], [.arr 54 tapi_Pair false]⟩
def AE_ref04_Put : Ent := ⟨107, AS_ref04_Put, AZ_ref04_Put, ref04_Put⟩
def AF_ref04_Put : Fx := mkFx Acx (lookupG []) (fun k st => bif Nat.beq k 0 then AL_ref04_Put_0.go (ref04_Put_l0) 0 st else .fail) 0
theorem ref04_Put_b0_eq (s : AL_ref04_Put_0.S.ty.den) : @Eq (Option (AL_ref04_Put_0.S.ty.den ⊕ AL_ref04_Put_0.Out)) (AL_ref04_Put_0.body (AF_ref04_Put) (loopAt (bodyOf Tryz.f107) 0) 0 s).val (ref04_Put_b0 s) := by kernel_rfl
theorem ref04_Put_eq (s : AS_ref04_Put.ty.den) : @Eq (Option AZ_ref04_Put.ty.den) (evFn (AF_ref04_Put) Tryz.f107 AS_ref04_Put AZ_ref04_Put s).val (ref04_Put s) := by kernel_rfl
theorem ref04_Put_hG : GSound Tryz.prog (AF_ref04_Put).Γ := ents_sound trivial
theorem ref04_Put_la0 : LamOK Tryz.prog (AF_ref04_Put) Tryz.f107.ntmps 0 (loopAt (bodyOf Tryz.f107) 0) :=
  lam_sound Atab (ref04_Put_hG) Amixed (L := AL_ref04_Put_0) (f := ref04_Put_l0) (b := ref04_Put_b0) (m := []) (fun _ => rfl) (by kernel_rfl) (by kernel_rfl) trivial (by kernel_rfl) (rfOK_no _ (by kernel_rfl)) (ref04_Put_b0_eq)
theorem ref04_Put_ok : EntOK Tryz.prog (AE_ref04_Put) :=
  fun_sound (F := (AF_ref04_Put)) Atab (ref04_Put_hG) Amixed (fn := Tryz.f107) (m := [(0, loopAt (bodyOf Tryz.f107) 0)]) Tryz.func107 (by kernel_rfl) (by kernel_rfl) (by kernel_rfl) ⟨ref04_Put_la0, trivial⟩ (rfOK_no _ (by kernel_rfl)) (by kernel_rfl) (ref04_Put_eq)
theorem ref04_Put_ox : EntX Tryz.prog (AE_ref04_Put) := (ref04_Put_ok).x (by kernel_rfl)
def AL_ref04_Made_0 : Lp := ⟨⟨[(0, (.dat (.list (.pair (.int .u8) (.pair (.int .u8) (.pair (.int .u8) .unit)))))), (3, (.own tapi_Pair 0)), (4, (.dat (.int .i64)))], [.arr 54 tapi_Pair false]⟩, (.exit 0), ⟨[(3, (.own tapi_Pair 0))], [.arr 54 tapi_Pair false]⟩, (.exit 80000000), ⟨[], []⟩⟩
def AS_ref04_Made : Shape := ⟨[(0, (.dat (.list (.pair (.int .u8) (.pair (.int .u8) (.pair (.int .u8) .unit))))))], []⟩
def AZ_ref04_Made : Shape := ⟨[(0, (.own tapi_Pair 0))], [.arr 54 tapi_Pair false]⟩
def AE_ref04_Made : Ent := ⟨52, AS_ref04_Made, AZ_ref04_Made, ref04_Made⟩
def AF_ref04_Made : Fx := mkFx Acx (lookupG [AE_ref04_Pair, AE_ref04_Put]) (fun k st => bif Nat.beq k 0 then AL_ref04_Made_0.go (ref04_Made_l0) 0 st else .fail) 0
theorem ref04_Made_b0_eq (s : AL_ref04_Made_0.S.ty.den) : @Eq (Option (AL_ref04_Made_0.S.ty.den ⊕ AL_ref04_Made_0.Out)) (AL_ref04_Made_0.body (AF_ref04_Made) (loopAt (bodyOf Tryz.f52) 0) 0 s).val (ref04_Made_b0 s) := by kernel_rfl
theorem ref04_Made_eq (s : AS_ref04_Made.ty.den) : @Eq (Option AZ_ref04_Made.ty.den) (evFn (AF_ref04_Made) Tryz.f52 AS_ref04_Made AZ_ref04_Made s).val (ref04_Made s) := by kernel_rfl
theorem ref04_Made_hG : GSound Tryz.prog (AF_ref04_Made).Γ := ents_sound ⟨(ref04_Pair_ox), (ref04_Put_ox), trivial⟩
theorem ref04_Made_la0 : LamOK Tryz.prog (AF_ref04_Made) Tryz.f52.ntmps 0 (loopAt (bodyOf Tryz.f52) 0) :=
  lam_sound Atab (ref04_Made_hG) Amixed (L := AL_ref04_Made_0) (f := ref04_Made_l0) (b := ref04_Made_b0) (m := []) (fun _ => rfl) (by kernel_rfl) (by kernel_rfl) trivial (by kernel_rfl) (rfOK_no _ (by kernel_rfl)) (ref04_Made_b0_eq)
theorem ref04_Made_ok : EntOK Tryz.prog (AE_ref04_Made) :=
  fun_sound (F := (AF_ref04_Made)) Atab (ref04_Made_hG) Amixed (fn := Tryz.f52) (m := [(0, loopAt (bodyOf Tryz.f52) 0)]) Tryz.func52 (by kernel_rfl) (by kernel_rfl) (by kernel_rfl) ⟨ref04_Made_la0, trivial⟩ (rfOK_no _ (by kernel_rfl)) (by kernel_rfl) (ref04_Made_eq)
theorem ref04_Made_ox : EntX Tryz.prog (AE_ref04_Made) := (ref04_Made_ok).x (by kernel_rfl)
def AS_ref12_build : Shape := ⟨[(0, (.dat tapi_Pool)), (1, (.dat (.list tapi_Pair))), (2, (.dat tapi_Span)), (3, (.dat (.list (.list .str)))), (4, (.dat tref12_Raw))], []⟩
def AZ_ref12_build : Shape := ⟨[(0, (.dat tref12_built))], []⟩
def AE_ref12_build_r (ref12_build_r : ((api_Pool) × (List (api_Pair)) × (api_Span) × (List (List (List UInt8))) × (ref12_Raw) × Unit) → Option ((ref12_built) × Unit)) : Ent := ⟨51, AS_ref12_build, AZ_ref12_build, ref12_build_r⟩
def AS_ref11_Get : Shape := ⟨[(0, (.dat tapi_Pool)), (1, (.dat (.int .i64)))], []⟩
def AZ_ref11_Get : Shape := ⟨[(0, (.dat tapi_Node)), (1, (.dat (.int .i64)))], []⟩
def AE_ref11_Get : Ent := ⟨88, AS_ref11_Get, AZ_ref11_Get, ref11_Get⟩
def AF_ref11_Get : Fx := mkFx Acx (lookupG [AE_ref11_Used]) (fun k st => .fail) 0
theorem ref11_Get_eq (s : AS_ref11_Get.ty.den) : @Eq (Option AZ_ref11_Get.ty.den) (evFn (AF_ref11_Get) Tryz.f88 AS_ref11_Get AZ_ref11_Get s).val (ref11_Get s) := by kernel_rfl
theorem ref11_Get_hG : GSound Tryz.prog (AF_ref11_Get).Γ := ents_sound ⟨(ref11_Used_ox), trivial⟩
theorem ref11_Get_ok : EntOK Tryz.prog (AE_ref11_Get) :=
  fun_sound (F := (AF_ref11_Get)) Atab (ref11_Get_hG) Amixed (fn := Tryz.f88) (m := []) Tryz.func88 (by kernel_rfl) (by kernel_rfl) (by kernel_rfl) trivial (rfOK_no _ (by kernel_rfl)) (by kernel_rfl) (ref11_Get_eq)
theorem ref11_Get_ox : EntX Tryz.prog (AE_ref11_Get) := (ref11_Get_ok).x (by kernel_rfl)
def AS_ref05_Path : Shape := ⟨[(0, (.dat (.int .u8)))], []⟩
def AZ_ref05_Path : Shape := ⟨[(0, (.dat .str))], []⟩
def AE_ref05_Path : Ent := ⟨79, AS_ref05_Path, AZ_ref05_Path, ref05_Path⟩
def AF_ref05_Path : Fx := mkFx Acx (lookupG []) (fun k st => .fail) 0
theorem ref05_Path_eq (s : AS_ref05_Path.ty.den) : @Eq (Option AZ_ref05_Path.ty.den) (evFn (AF_ref05_Path) Tryz.f79 AS_ref05_Path AZ_ref05_Path s).val (ref05_Path s) := by kernel_rfl
theorem ref05_Path_hG : GSound Tryz.prog (AF_ref05_Path).Γ := ents_sound trivial
theorem ref05_Path_ok : EntOK Tryz.prog (AE_ref05_Path) :=
  fun_sound (F := (AF_ref05_Path)) Atab (ref05_Path_hG) Amixed (fn := Tryz.f79) (m := []) Tryz.func79 (by kernel_rfl) (by kernel_rfl) (by kernel_rfl) trivial (rfOK_no _ (by kernel_rfl)) (by kernel_rfl) (ref05_Path_eq)
theorem ref05_Path_ox : EntX Tryz.prog (AE_ref05_Path) := (ref05_Path_ok).x (by kernel_rfl)
def AS_ref05_Key : Shape := ⟨[(0, (.dat (.int .u8)))], []⟩
def AZ_ref05_Key : Shape := ⟨[(0, (.dat .str))], []⟩
def AE_ref05_Key : Ent := ⟨77, AS_ref05_Key, AZ_ref05_Key, ref05_Key⟩
def AF_ref05_Key : Fx := mkFx Acx (lookupG [AE_ref05_Path]) (fun k st => .fail) 0
theorem ref05_Key_eq (s : AS_ref05_Key.ty.den) : @Eq (Option AZ_ref05_Key.ty.den) (evFn (AF_ref05_Key) Tryz.f77 AS_ref05_Key AZ_ref05_Key s).val (ref05_Key s) := by kernel_rfl
theorem ref05_Key_hG : GSound Tryz.prog (AF_ref05_Key).Γ := ents_sound ⟨(ref05_Path_ox), trivial⟩
theorem ref05_Key_ok : EntOK Tryz.prog (AE_ref05_Key) :=
  fun_sound (F := (AF_ref05_Key)) Atab (ref05_Key_hG) Amixed (fn := Tryz.f77) (m := []) Tryz.func77 (by kernel_rfl) (by kernel_rfl) (by kernel_rfl) trivial (rfOK_no _ (by kernel_rfl)) (by kernel_rfl) (ref05_Key_eq)
theorem ref05_Key_ox : EntX Tryz.prog (AE_ref05_Key) := (ref05_Key_ok).x (by kernel_rfl)
def AL_ref02_Prefix_0 : Lp := ⟨⟨[(0, (.dat .str)), (2, (.ptr 0 tapi_Span 0 [])), (3, (.dat (.int .i64)))], [.box 62 tapi_Span (.agg [(.dat .str), (.dat .str)])]⟩, (.exit 0), ⟨[(0, (.dat .str)), (2, (.ptr 0 tapi_Span 0 [])), (3, (.dat (.int .i64)))], [.box 62 tapi_Span (.agg [(.dat .str), (.dat .str)])]⟩, (.exit 80000000), ⟨[], []⟩⟩
def AS_ref02_Prefix : Shape := ⟨[(0, (.dat .str))], []⟩
def AZ_ref02_Prefix : Shape := ⟨[(0, (.dat tapi_Span))], []⟩
def AE_ref02_Prefix : Ent := ⟨78, AS_ref02_Prefix, AZ_ref02_Prefix, ref02_Prefix⟩
def AF_ref02_Prefix : Fx := mkFx Acx (lookupG []) (fun k st => bif Nat.beq k 0 then AL_ref02_Prefix_0.go (ref02_Prefix_l0) 0 st else .fail) 0
theorem ref02_Prefix_b0_eq (s : AL_ref02_Prefix_0.S.ty.den) : @Eq (Option (AL_ref02_Prefix_0.S.ty.den ⊕ AL_ref02_Prefix_0.Out)) (AL_ref02_Prefix_0.body (AF_ref02_Prefix) (loopAt (bodyOf Tryz.f78) 0) 0 s).val (ref02_Prefix_b0 s) := by kernel_rfl
theorem ref02_Prefix_eq (s : AS_ref02_Prefix.ty.den) : @Eq (Option AZ_ref02_Prefix.ty.den) (evFn (AF_ref02_Prefix) Tryz.f78 AS_ref02_Prefix AZ_ref02_Prefix s).val (ref02_Prefix s) := by kernel_rfl
theorem ref02_Prefix_hG : GSound Tryz.prog (AF_ref02_Prefix).Γ := ents_sound trivial
theorem ref02_Prefix_la0 : LamOK Tryz.prog (AF_ref02_Prefix) Tryz.f78.ntmps 0 (loopAt (bodyOf Tryz.f78) 0) :=
  lam_sound Atab (ref02_Prefix_hG) Amixed (L := AL_ref02_Prefix_0) (f := ref02_Prefix_l0) (b := ref02_Prefix_b0) (m := []) (fun _ => rfl) (by kernel_rfl) (by kernel_rfl) trivial (by kernel_rfl) (rfOK_no _ (by kernel_rfl)) (ref02_Prefix_b0_eq)
theorem ref02_Prefix_ok : EntOK Tryz.prog (AE_ref02_Prefix) :=
  fun_sound (F := (AF_ref02_Prefix)) Atab (ref02_Prefix_hG) Amixed (fn := Tryz.f78) (m := [(0, loopAt (bodyOf Tryz.f78) 0)]) Tryz.func78 (by kernel_rfl) (by kernel_rfl) (by kernel_rfl) ⟨ref02_Prefix_la0, trivial⟩ (rfOK_no _ (by kernel_rfl)) (by kernel_rfl) (ref02_Prefix_eq)
theorem ref02_Prefix_ox : EntX Tryz.prog (AE_ref02_Prefix) := (ref02_Prefix_ok).x (by kernel_rfl)
def AS_ref02_Begins : Shape := ⟨[(0, (.dat .str)), (1, (.dat .str))], []⟩
def AZ_ref02_Begins : Shape := ⟨[(0, (.dat .bool))], []⟩
def AE_ref02_Begins : Ent := ⟨81, AS_ref02_Begins, AZ_ref02_Begins, ref02_Begins⟩
def AF_ref02_Begins : Fx := mkFx Acx (lookupG []) (fun k st => .fail) 0
theorem ref02_Begins_eq (s : AS_ref02_Begins.ty.den) : @Eq (Option AZ_ref02_Begins.ty.den) (evFn (AF_ref02_Begins) Tryz.f81 AS_ref02_Begins AZ_ref02_Begins s).val (ref02_Begins s) := by kernel_rfl
theorem ref02_Begins_hG : GSound Tryz.prog (AF_ref02_Begins).Γ := ents_sound trivial
theorem ref02_Begins_ok : EntOK Tryz.prog (AE_ref02_Begins) :=
  fun_sound (F := (AF_ref02_Begins)) Atab (ref02_Begins_hG) Amixed (fn := Tryz.f81) (m := []) Tryz.func81 (by kernel_rfl) (by kernel_rfl) (by kernel_rfl) trivial (rfOK_no _ (by kernel_rfl)) (by kernel_rfl) (ref02_Begins_eq)
theorem ref02_Begins_ox : EntX Tryz.prog (AE_ref02_Begins) := (ref02_Begins_ok).x (by kernel_rfl)
def AS_ref05_Value : Shape := ⟨[(0, (.dat (.int .u8)))], []⟩
def AZ_ref05_Value : Shape := ⟨[(0, (.dat .str))], []⟩
def AE_ref05_Value : Ent := ⟨82, AS_ref05_Value, AZ_ref05_Value, ref05_Value⟩
def AF_ref05_Value : Fx := mkFx Acx (lookupG []) (fun k st => .fail) 0
theorem ref05_Value_eq (s : AS_ref05_Value.ty.den) : @Eq (Option AZ_ref05_Value.ty.den) (evFn (AF_ref05_Value) Tryz.f82 AS_ref05_Value AZ_ref05_Value s).val (ref05_Value s) := by kernel_rfl
theorem ref05_Value_hG : GSound Tryz.prog (AF_ref05_Value).Γ := ents_sound trivial
theorem ref05_Value_ok : EntOK Tryz.prog (AE_ref05_Value) :=
  fun_sound (F := (AF_ref05_Value)) Atab (ref05_Value_hG) Amixed (fn := Tryz.f82) (m := []) Tryz.func82 (by kernel_rfl) (by kernel_rfl) (by kernel_rfl) trivial (rfOK_no _ (by kernel_rfl)) (by kernel_rfl) (ref05_Value_eq)
theorem ref05_Value_ox : EntX Tryz.prog (AE_ref05_Value) := (ref05_Value_ok).x (by kernel_rfl)
def AS_ref02_One : Shape := ⟨[(0, (.dat .str))], []⟩
def AZ_ref02_One : Shape := ⟨[(0, (.dat tapi_Span))], []⟩
def AE_ref02_One : Ent := ⟨80, AS_ref02_One, AZ_ref02_One, ref02_One⟩
def AF_ref02_One : Fx := mkFx Acx (lookupG []) (fun k st => .fail) 0
theorem ref02_One_eq (s : AS_ref02_One.ty.den) : @Eq (Option AZ_ref02_One.ty.den) (evFn (AF_ref02_One) Tryz.f80 AS_ref02_One AZ_ref02_One s).val (ref02_One s) := by kernel_rfl
theorem ref02_One_hG : GSound Tryz.prog (AF_ref02_One).Γ := ents_sound trivial
theorem ref02_One_ok : EntOK Tryz.prog (AE_ref02_One) :=
  fun_sound (F := (AF_ref02_One)) Atab (ref02_One_hG) Amixed (fn := Tryz.f80) (m := []) Tryz.func80 (by kernel_rfl) (by kernel_rfl) (by kernel_rfl) trivial (rfOK_no _ (by kernel_rfl)) (by kernel_rfl) (ref02_One_eq)
theorem ref02_One_ox : EntX Tryz.prog (AE_ref02_One) := (ref02_One_ok).x (by kernel_rfl)
def AL_ref05_Made_c100013 : Lp := ⟨⟨[(1, (.ptr 0 (.pair (.int .u8) (.pair (.int .u8) (.pair (.int .u8) (.pair (.int .u8) (.pair (.int .u8) (.pair (.int .u8) .unit)))))) 0 [])), (2, (.ptr 1 tapi_Msg 0 [])), (3, (.dat .str)), (5, (.ptr 2 tapi_Span 0 [])), (6, (.dat .str)), (7, (.dat .str)), (63, (.dat .bool))], [.box 60 (.pair (.int .u8) (.pair (.int .u8) (.pair (.int .u8) (.pair (.int .u8) (.pair (.int .u8) (.pair (.int .u8) .unit)))))) (.dat (.pair (.int .u8) (.pair (.int .u8) (.pair (.int .u8) (.pair (.int .u8) (.pair (.int .u8) (.pair (.int .u8) .unit))))))), .box 64 tapi_Msg (.agg [(.dat (.int .i64)), (.dat .str), (.dat .str), (.agg [(.dat .str), (.dat .str)]), (.dat .str), (.dat .str), (.dat (.int .i64))]), .box 62 tapi_Span (.dat tapi_Span)]⟩, .nrm, ⟨[(1, (.ptr 0 (.pair (.int .u8) (.pair (.int .u8) (.pair (.int .u8) (.pair (.int .u8) (.pair (.int .u8) (.pair (.int .u8) .unit)))))) 0 [])), (2, (.ptr 1 tapi_Msg 0 [])), (3, (.dat .str)), (5, (.ptr 2 tapi_Span 0 [])), (6, (.dat .str)), (7, (.dat .str))], [.box 60 (.pair (.int .u8) (.pair (.int .u8) (.pair (.int .u8) (.pair (.int .u8) (.pair (.int .u8) (.pair (.int .u8) .unit)))))) (.dat (.pair (.int .u8) (.pair (.int .u8) (.pair (.int .u8) (.pair (.int .u8) (.pair (.int .u8) (.pair (.int .u8) .unit))))))), .box 64 tapi_Msg (.agg [(.dat (.int .i64)), (.dat .str), (.dat .str), (.agg [(.dat .str), (.dat .str)]), (.dat .str), (.dat .str), (.dat (.int .i64))]), .box 62 tapi_Span (.dat tapi_Span)]⟩, (.exit 90100013), ⟨[], []⟩⟩
def AL_ref05_Made_c16 : Lp := ⟨⟨[(1, (.ptr 0 (.pair (.int .u8) (.pair (.int .u8) (.pair (.int .u8) (.pair (.int .u8) (.pair (.int .u8) (.pair (.int .u8) .unit)))))) 0 [])), (2, (.ptr 1 tapi_Msg 0 [])), (3, (.dat .str)), (5, (.ptr 2 tapi_Span 0 [])), (6, (.dat .str)), (7, (.dat .str))], [.box 60 (.pair (.int .u8) (.pair (.int .u8) (.pair (.int .u8) (.pair (.int .u8) (.pair (.int .u8) (.pair (.int .u8) .unit)))))) (.dat (.pair (.int .u8) (.pair (.int .u8) (.pair (.int .u8) (.pair (.int .u8) (.pair (.int .u8) (.pair (.int .u8) .unit))))))), .box 64 tapi_Msg (.agg [(.dat (.int .i64)), (.dat .str), (.dat .str), (.agg [(.dat .str), (.dat .str)]), (.dat .str), (.dat .str), (.dat (.int .i64))]), .box 62 tapi_Span (.dat tapi_Span)]⟩, .ret, ⟨[(2, (.ptr 0 tapi_Msg 0 []))], [.box 64 tapi_Msg (.agg [(.dat (.int .i64)), (.dat .str), (.dat .str), (.dat tapi_Span), (.dat .str), (.dat .str), (.dat (.int .i64))])]⟩, (.exit 90000016), ⟨[], []⟩⟩
def AL_ref05_Made_c11 : Lp := ⟨⟨[(1, (.ptr 0 (.pair (.int .u8) (.pair (.int .u8) (.pair (.int .u8) (.pair (.int .u8) (.pair (.int .u8) (.pair (.int .u8) .unit)))))) 0 [])), (2, (.ptr 1 tapi_Msg 0 [])), (3, (.dat .str)), (5, (.ptr 2 tapi_Span 0 []))], [.box 60 (.pair (.int .u8) (.pair (.int .u8) (.pair (.int .u8) (.pair (.int .u8) (.pair (.int .u8) (.pair (.int .u8) .unit)))))) (.dat (.pair (.int .u8) (.pair (.int .u8) (.pair (.int .u8) (.pair (.int .u8) (.pair (.int .u8) (.pair (.int .u8) .unit))))))), .box 64 tapi_Msg (.agg [(.dat (.int .i64)), (.dat .str), (.dat .str), (.agg [(.dat .str), (.dat .str)]), (.dat .str), (.dat .str), (.dat (.int .i64))]), .box 62 tapi_Span (.dat tapi_Span)]⟩, .ret, ⟨[(2, (.ptr 0 tapi_Msg 0 []))], [.box 64 tapi_Msg (.agg [(.dat (.int .i64)), (.dat .str), (.dat .str), (.dat tapi_Span), (.dat .str), (.dat .str), (.dat (.int .i64))])]⟩, (.exit 90000011), ⟨[], []⟩⟩
def AS_ref05_Made : Shape := ⟨[(0, (.dat (.pair (.int .u8) (.pair (.int .u8) (.pair (.int .u8) (.pair (.int .u8) (.pair (.int .u8) (.pair (.int .u8) .unit))))))))], []⟩
def AZ_ref05_Made : Shape := ⟨[(0, (.dat tapi_Msg))], []⟩
def AE_ref05_Made : Ent := ⟨27, AS_ref05_Made, AZ_ref05_Made, ref05_Made⟩
def AF_ref05_Made : Fx := mkFx Acx (lookupG [AE_ref05_Path, AE_ref05_Key, AE_ref02_Prefix, AE_ref02_Begins, AE_ref05_Value, AE_ref02_One]) (fun k st => .fail) 0
def AC_ref05_Made : Cuts := [(100013, AL_ref05_Made_c100013.go (ref05_Made_c100013) 0), (16, AL_ref05_Made_c16.go (ref05_Made_c16) 0), (11, AL_ref05_Made_c11.go (ref05_Made_c11) 0)]
theorem ref05_Made_c100013_eq (s : AL_ref05_Made_c100013.S.ty.den) : @Eq (Option AL_ref05_Made_c100013.Out) ((evK (AF_ref05_Made) (AC_ref05_Made) (tailOf (bodyOf Tryz.f27) 100013) 0 (AL_ref05_Made_c100013.S.enc s)).bind fun (e, st) => AL_ref05_Made_c100013.out (AF_ref05_Made).m e st).val (ref05_Made_c100013 s) := by kernel_rfl
theorem ref05_Made_c16_eq (s : AL_ref05_Made_c16.S.ty.den) : @Eq (Option AL_ref05_Made_c16.Out) ((evK (AF_ref05_Made) (AC_ref05_Made) (tailOf (bodyOf Tryz.f27) 16) 0 (AL_ref05_Made_c16.S.enc s)).bind fun (e, st) => AL_ref05_Made_c16.out (AF_ref05_Made).m e st).val (ref05_Made_c16 s) := by kernel_rfl
theorem ref05_Made_c11_eq (s : AL_ref05_Made_c11.S.ty.den) : @Eq (Option AL_ref05_Made_c11.Out) ((evK (AF_ref05_Made) (AC_ref05_Made) (tailOf (bodyOf Tryz.f27) 11) 0 (AL_ref05_Made_c11.S.enc s)).bind fun (e, st) => AL_ref05_Made_c11.out (AF_ref05_Made).m e st).val (ref05_Made_c11 s) := by kernel_rfl
theorem ref05_Made_eq (s : (AE_ref05_Made).S.ty.den) : (evFnK (AF_ref05_Made) (AC_ref05_Made) Tryz.f27 (AE_ref05_Made).S (AE_ref05_Made).Z s).val = (AE_ref05_Made).g s := by kernel_rfl
theorem ref05_Made_hG : GSound Tryz.prog (AF_ref05_Made).Γ := ents_sound ⟨(ref05_Path_ox), (ref05_Key_ox), (ref02_Prefix_ox), (ref02_Begins_ox), (ref05_Value_ox), (ref02_One_ox), trivial⟩
theorem ref05_Made_c100013_ok : CutOK Tryz.prog (AF_ref05_Made) Tryz.f27.ntmps (AL_ref05_Made_c100013.go (ref05_Made_c100013) 0) (tailOf (bodyOf Tryz.f27) 100013) :=
  cut_sound Atab (ref05_Made_hG) Amixed (L := AL_ref05_Made_c100013) (k := 0) (f := ref05_Made_c100013) (C := (AC_ref05_Made)) (l := []) (m := []) (by kernel_rfl) trivial (by kernel_rfl) trivial (by kernel_rfl) (rfOK_no _ (by kernel_rfl)) (ref05_Made_c100013_eq)
theorem ref05_Made_c16_ok : CutOK Tryz.prog (AF_ref05_Made) Tryz.f27.ntmps (AL_ref05_Made_c16.go (ref05_Made_c16) 0) (tailOf (bodyOf Tryz.f27) 16) :=
  cut_sound Atab (ref05_Made_hG) Amixed (L := AL_ref05_Made_c16) (k := 0) (f := ref05_Made_c16) (C := (AC_ref05_Made)) (l := []) (m := []) (by kernel_rfl) trivial (by kernel_rfl) trivial (by kernel_rfl) (rfOK_no _ (by kernel_rfl)) (ref05_Made_c16_eq)
theorem ref05_Made_c11_ok : CutOK Tryz.prog (AF_ref05_Made) Tryz.f27.ntmps (AL_ref05_Made_c11.go (ref05_Made_c11) 0) (tailOf (bodyOf Tryz.f27) 11) :=
  cut_sound Atab (ref05_Made_hG) Amixed (L := AL_ref05_Made_c11) (k := 0) (f := ref05_Made_c11) (C := (AC_ref05_Made)) (l := []) (m := [(AL_ref05_Made_c100013.go (ref05_Made_c100013) 0, tailOf (bodyOf Tryz.f27) 100013), (AL_ref05_Made_c16.go (ref05_Made_c16) 0, tailOf (bodyOf Tryz.f27) 16)]) (by kernel_rfl) trivial (by kernel_rfl) ⟨ref05_Made_c100013_ok, ref05_Made_c16_ok, trivial⟩ (by kernel_rfl) (rfOK_no _ (by kernel_rfl)) (ref05_Made_c11_eq)
theorem ref05_Made_ok : EntOK Tryz.prog (AE_ref05_Made) :=
  fun_soundK (C := (AC_ref05_Made)) (F := (AF_ref05_Made)) Atab (ref05_Made_hG) Amixed (fn := Tryz.f27) (l := []) (m := [(AL_ref05_Made_c11.go (ref05_Made_c11) 0, tailOf (bodyOf Tryz.f27) 11)]) Tryz.func27 (by kernel_rfl) (by kernel_rfl) (by kernel_rfl) trivial (by kernel_rfl) ⟨ref05_Made_c11_ok, trivial⟩ (rfOK_no _ (by kernel_rfl)) (by kernel_rfl) (ref05_Made_eq)
theorem ref05_Made_ox : EntX Tryz.prog (AE_ref05_Made) := (ref05_Made_ok).x (by kernel_rfl)
def AL_ref05_List_0 : Lp := ⟨⟨[(0, (.dat (.list (.pair (.int .u8) (.pair (.int .u8) (.pair (.int .u8) (.pair (.int .u8) (.pair (.int .u8) (.pair (.int .u8) .unit))))))))), (1, (.dat (.int .i64))), (5, (.own tapi_Msg 0)), (6, (.dat (.int .i64)))], [.arr 64 tapi_Msg false]⟩, (.exit 0), ⟨[(5, (.own tapi_Msg 0))], [.arr 64 tapi_Msg false]⟩, (.exit 80000000), ⟨[], []⟩⟩
def AS_ref05_List : Shape := ⟨[(0, (.dat (.list (.pair (.int .u8) (.pair (.int .u8) (.pair (.int .u8) (.pair (.int .u8) (.pair (.int .u8) (.pair (.int .u8) .unit))))))))), (1, (.dat (.int .i64)))], []⟩
def AZ_ref05_List : Shape := ⟨[(0, (.own tapi_Msg 0))], [.arr 64 tapi_Msg false]⟩
def AE_ref05_List : Ent := ⟨163, AS_ref05_List, AZ_ref05_List, ref05_List⟩
def AF_ref05_List : Fx := mkFx Acx (lookupG [AE_ref05_Made]) (fun k st => bif Nat.beq k 0 then AL_ref05_List_0.go (ref05_List_l0) 0 st else .fail) 0
theorem ref05_List_b0_eq (s : AL_ref05_List_0.S.ty.den) : @Eq (Option (AL_ref05_List_0.S.ty.den ⊕ AL_ref05_List_0.Out)) (AL_ref05_List_0.body (AF_ref05_List) (loopAt (bodyOf Tryz.f163) 0) 0 s).val (ref05_List_b0 s) := by kernel_rfl
theorem ref05_List_eq (s : AS_ref05_List.ty.den) : @Eq (Option AZ_ref05_List.ty.den) (evFn (AF_ref05_List) Tryz.f163 AS_ref05_List AZ_ref05_List s).val (ref05_List s) := by kernel_rfl
theorem ref05_List_hG : GSound Tryz.prog (AF_ref05_List).Γ := ents_sound ⟨(ref05_Made_ox), trivial⟩
theorem ref05_List_la0 : LamOK Tryz.prog (AF_ref05_List) Tryz.f163.ntmps 0 (loopAt (bodyOf Tryz.f163) 0) :=
  lam_sound Atab (ref05_List_hG) Amixed (L := AL_ref05_List_0) (f := ref05_List_l0) (b := ref05_List_b0) (m := []) (fun _ => rfl) (by kernel_rfl) (by kernel_rfl) trivial (by kernel_rfl) (rfOK_no _ (by kernel_rfl)) (ref05_List_b0_eq)
theorem ref05_List_ok : EntOK Tryz.prog (AE_ref05_List) :=
  fun_sound (F := (AF_ref05_List)) Atab (ref05_List_hG) Amixed (fn := Tryz.f163) (m := [(0, loopAt (bodyOf Tryz.f163) 0)]) Tryz.func163 (by kernel_rfl) (by kernel_rfl) (by kernel_rfl) ⟨ref05_List_la0, trivial⟩ (rfOK_no _ (by kernel_rfl)) (by kernel_rfl) (ref05_List_eq)
theorem ref05_List_ox : EntX Tryz.prog (AE_ref05_List) := (ref05_List_ok).x (by kernel_rfl)
def AS_ref05_Reads : Shape := ⟨[(0, (.dat tapi_Msg))], []⟩
def AZ_ref05_Reads : Shape := ⟨[(0, (.own tapi_Span 0))], [.arr 62 tapi_Span false]⟩
def AE_ref05_Reads : Ent := ⟨220, AS_ref05_Reads, AZ_ref05_Reads, ref05_Reads⟩
def AF_ref05_Reads : Fx := mkFx Acx (lookupG [AE_ref02_Prefix]) (fun k st => .fail) 0
theorem ref05_Reads_eq (s : AS_ref05_Reads.ty.den) : @Eq (Option AZ_ref05_Reads.ty.den) (evFn (AF_ref05_Reads) Tryz.f220 AS_ref05_Reads AZ_ref05_Reads s).val (ref05_Reads s) := by kernel_rfl
theorem ref05_Reads_hG : GSound Tryz.prog (AF_ref05_Reads).Γ := ents_sound ⟨(ref02_Prefix_ox), trivial⟩
theorem ref05_Reads_ok : EntOK Tryz.prog (AE_ref05_Reads) :=
  fun_sound (F := (AF_ref05_Reads)) Atab (ref05_Reads_hG) Amixed (fn := Tryz.f220) (m := []) Tryz.func220 (by kernel_rfl) (by kernel_rfl) (by kernel_rfl) trivial (rfOK_no _ (by kernel_rfl)) (by kernel_rfl) (ref05_Reads_eq)
theorem ref05_Reads_ox : EntX Tryz.prog (AE_ref05_Reads) := (ref05_Reads_ok).x (by kernel_rfl)
def AS_ref05_Writes : Shape := ⟨[(0, (.dat tapi_Msg))], []⟩
def AZ_ref05_Writes : Shape := ⟨[(0, (.own tapi_Span 0))], [.arr 62 tapi_Span false]⟩
def AE_ref05_Writes : Ent := ⟨35, AS_ref05_Writes, AZ_ref05_Writes, ref05_Writes⟩
def AF_ref05_Writes : Fx := mkFx Acx (lookupG [AE_ref02_Prefix, AE_ref02_One]) (fun k st => .fail) 0
theorem ref05_Writes_eq (s : AS_ref05_Writes.ty.den) : @Eq (Option AZ_ref05_Writes.ty.den) (evFn (AF_ref05_Writes) Tryz.f35 AS_ref05_Writes AZ_ref05_Writes s).val (ref05_Writes s) := by kernel_rfl
theorem ref05_Writes_hG : GSound Tryz.prog (AF_ref05_Writes).Γ := ents_sound ⟨(ref02_Prefix_ox), (ref02_One_ox), trivial⟩
theorem ref05_Writes_ok : EntOK Tryz.prog (AE_ref05_Writes) :=
  fun_sound (F := (AF_ref05_Writes)) Atab (ref05_Writes_hG) Amixed (fn := Tryz.f35) (m := []) Tryz.func35 (by kernel_rfl) (by kernel_rfl) (by kernel_rfl) trivial (rfOK_no _ (by kernel_rfl)) (by kernel_rfl) (ref05_Writes_eq)
theorem ref05_Writes_ox : EntX Tryz.prog (AE_ref05_Writes) := (ref05_Writes_ok).x (by kernel_rfl)
def AS_ref02_Covers : Shape := ⟨[(0, (.dat tapi_Span)), (1, (.dat tapi_Span))], []⟩
def AZ_ref02_Covers : Shape := ⟨[(0, (.dat .bool))], []⟩
def AE_ref02_Covers : Ent := ⟨221, AS_ref02_Covers, AZ_ref02_Covers, ref02_Covers⟩
def AF_ref02_Covers : Fx := mkFx Acx (lookupG [AE_ref02_Less, AE_ref02_Empty]) (fun k st => .fail) 0
theorem ref02_Covers_eq (s : AS_ref02_Covers.ty.den) : @Eq (Option AZ_ref02_Covers.ty.den) (evFn (AF_ref02_Covers) Tryz.f221 AS_ref02_Covers AZ_ref02_Covers s).val (ref02_Covers s) := by kernel_rfl
theorem ref02_Covers_hG : GSound Tryz.prog (AF_ref02_Covers).Γ := ents_sound ⟨(ref02_Less_ox), (ref02_Empty_ox), trivial⟩
theorem ref02_Covers_ok : EntOK Tryz.prog (AE_ref02_Covers) :=
  fun_sound (F := (AF_ref02_Covers)) Atab (ref02_Covers_hG) Amixed (fn := Tryz.f221) (m := []) Tryz.func221 (by kernel_rfl) (by kernel_rfl) (by kernel_rfl) trivial (rfOK_no _ (by kernel_rfl)) (by kernel_rfl) (ref02_Covers_eq)
theorem ref02_Covers_ox : EntX Tryz.prog (AE_ref02_Covers) := (ref02_Covers_ok).x (by kernel_rfl)
def AL_ref08_Lies_0 : Lp := ⟨⟨[(3, (.ptr 0 tapi_Span 0 [])), (5, (.own tapi_Span 1)), (6, (.dat (.int .i64)))], [.box 62 tapi_Span (.dat tapi_Span), .arr 62 tapi_Span false]⟩, .ret, ⟨[(4, (.dat .bool))], []⟩, (.exit 0), ⟨[], []⟩⟩
def AS_ref08_Lies : Shape := ⟨[(0, (.dat tapi_Msg)), (1, (.dat tapi_Span))], []⟩
def AZ_ref08_Lies : Shape := ⟨[(0, (.dat .bool))], []⟩
def AE_ref08_Lies : Ent := ⟨164, AS_ref08_Lies, AZ_ref08_Lies, ref08_Lies⟩
def AF_ref08_Lies : Fx := mkFx Acx (lookupG [AE_ref05_Reads, AE_ref05_Writes, AE_ref02_Covers]) (fun k st => bif Nat.beq k 0 then AL_ref08_Lies_0.go (ref08_Lies_l0) 0 st else .fail) 0
theorem ref08_Lies_b0_eq (s : AL_ref08_Lies_0.S.ty.den) : @Eq (Option (AL_ref08_Lies_0.S.ty.den ⊕ AL_ref08_Lies_0.Out)) (AL_ref08_Lies_0.body (AF_ref08_Lies) (loopAt (bodyOf Tryz.f164) 0) 0 s).val (ref08_Lies_b0 s) := by kernel_rfl
theorem ref08_Lies_eq (s : AS_ref08_Lies.ty.den) : @Eq (Option AZ_ref08_Lies.ty.den) (evFn (AF_ref08_Lies) Tryz.f164 AS_ref08_Lies AZ_ref08_Lies s).val (ref08_Lies s) := by kernel_rfl
theorem ref08_Lies_hG : GSound Tryz.prog (AF_ref08_Lies).Γ := ents_sound ⟨(ref05_Reads_ox), (ref05_Writes_ox), (ref02_Covers_ox), trivial⟩
theorem ref08_Lies_la0 : LamOK Tryz.prog (AF_ref08_Lies) Tryz.f164.ntmps 0 (loopAt (bodyOf Tryz.f164) 0) :=
  lam_sound Atab (ref08_Lies_hG) Amixed (L := AL_ref08_Lies_0) (f := ref08_Lies_l0) (b := ref08_Lies_b0) (m := []) (fun _ => rfl) (by kernel_rfl) (by kernel_rfl) trivial (by kernel_rfl) (rfOK_no _ (by kernel_rfl)) (ref08_Lies_b0_eq)
theorem ref08_Lies_ok : EntOK Tryz.prog (AE_ref08_Lies) :=
  fun_sound (F := (AF_ref08_Lies)) Atab (ref08_Lies_hG) Amixed (fn := Tryz.f164) (m := [(0, loopAt (bodyOf Tryz.f164) 0)]) Tryz.func164 (by kernel_rfl) (by kernel_rfl) (by kernel_rfl) ⟨ref08_Lies_la0, trivial⟩ (rfOK_no _ (by kernel_rfl)) (by kernel_rfl) (ref08_Lies_eq)
theorem ref08_Lies_ox : EntX Tryz.prog (AE_ref08_Lies) := (ref08_Lies_ok).x (by kernel_rfl)
def AL_ref12_fitting_0 : Lp := ⟨⟨[(2, (.dat (.int .i64))), (4, (.ptr 0 tapi_Span 0 [])), (7, (.own tapi_Msg 1)), (8, (.own tapi_Msg 2)), (9, (.dat (.int .i64)))], [.box 62 tapi_Span (.dat tapi_Span), .arr 64 tapi_Msg false, .arr 64 tapi_Msg false]⟩, (.exit 0), ⟨[(7, (.own tapi_Msg 0))], [.arr 64 tapi_Msg false]⟩, (.exit 80000000), ⟨[], []⟩⟩
def AS_ref12_fitting : Shape := ⟨[(0, (.dat (.list (.pair (.int .u8) (.pair (.int .u8) (.pair (.int .u8) (.pair (.int .u8) (.pair (.int .u8) (.pair (.int .u8) .unit))))))))), (1, (.dat tapi_Span)), (2, (.dat (.int .i64)))], []⟩
def AZ_ref12_fitting : Shape := ⟨[(0, (.own tapi_Msg 0))], [.arr 64 tapi_Msg false]⟩
def AE_ref12_fitting : Ent := ⟨106, AS_ref12_fitting, AZ_ref12_fitting, ref12_fitting⟩
def AF_ref12_fitting : Fx := mkFx Acx (lookupG [AE_ref05_List, AE_ref08_Lies]) (fun k st => bif Nat.beq k 0 then AL_ref12_fitting_0.go (ref12_fitting_l0) 0 st else .fail) 0
theorem ref12_fitting_b0_eq (s : AL_ref12_fitting_0.S.ty.den) : @Eq (Option (AL_ref12_fitting_0.S.ty.den ⊕ AL_ref12_fitting_0.Out)) (AL_ref12_fitting_0.body (AF_ref12_fitting) (loopAt (bodyOf Tryz.f106) 0) 0 s).val (ref12_fitting_b0 s) := by kernel_rfl
theorem ref12_fitting_eq (s : AS_ref12_fitting.ty.den) : @Eq (Option AZ_ref12_fitting.ty.den) (evFn (AF_ref12_fitting) Tryz.f106 AS_ref12_fitting AZ_ref12_fitting s).val (ref12_fitting s) := by kernel_rfl
theorem ref12_fitting_hG : GSound Tryz.prog (AF_ref12_fitting).Γ := ents_sound ⟨(ref05_List_ox), (ref08_Lies_ox), trivial⟩
theorem ref12_fitting_la0 : LamOK Tryz.prog (AF_ref12_fitting) Tryz.f106.ntmps 0 (loopAt (bodyOf Tryz.f106) 0) :=
  lam_sound Atab (ref12_fitting_hG) Amixed (L := AL_ref12_fitting_0) (f := ref12_fitting_l0) (b := ref12_fitting_b0) (m := []) (fun _ => rfl) (by kernel_rfl) (by kernel_rfl) trivial (by kernel_rfl) (rfOK_no _ (by kernel_rfl)) (ref12_fitting_b0_eq)
theorem ref12_fitting_ok : EntOK Tryz.prog (AE_ref12_fitting) :=
  fun_sound (F := (AF_ref12_fitting)) Atab (ref12_fitting_hG) Amixed (fn := Tryz.f106) (m := [(0, loopAt (bodyOf Tryz.f106) 0)]) Tryz.func106 (by kernel_rfl) (by kernel_rfl) (by kernel_rfl) ⟨ref12_fitting_la0, trivial⟩ (rfOK_no _ (by kernel_rfl)) (by kernel_rfl) (ref12_fitting_eq)
theorem ref12_fitting_ox : EntX Tryz.prog (AE_ref12_fitting) := (ref12_fitting_ok).x (by kernel_rfl)
def AL_ref12_build_0 : Lp := ⟨⟨[(1, (.dat (.list tapi_Pair))), (3, (.dat (.list (.list .str)))), (5, (.ptr 0 tapi_Pool 0 [])), (7, (.ptr 1 tapi_Span 0 [])), (9, (.ptr 2 tref12_Raw 0 [])), (10, (.ptr 3 tref12_built 0 [])), (11, (.own .str 4)), (12, (.dat (.int .i64)))], [.box 32 tapi_Pool (.dat tapi_Pool), .box 62 tapi_Span (.dat tapi_Span), .box 26 tref12_Raw (.dat tref12_Raw), .box 107 tref12_built (.agg [(.agg [(.dat (.list tapi_Slot))]), (.dat (.int .i64))]), .arr 9 .str false]⟩, (.exit 0), ⟨[(1, (.dat (.list tapi_Pair))), (3, (.dat (.list (.list .str)))), (5, (.ptr 0 tapi_Pool 0 [])), (7, (.ptr 1 tapi_Span 0 [])), (9, (.ptr 2 tref12_Raw 0 [])), (10, (.ptr 3 tref12_built 0 [])), (11, (.own .str 4))], [.box 32 tapi_Pool (.dat tapi_Pool), .box 62 tapi_Span (.dat tapi_Span), .box 26 tref12_Raw (.dat tref12_Raw), .box 107 tref12_built (.agg [(.agg [(.dat (.list tapi_Slot))]), (.dat (.int .i64))]), .arr 9 .str false]⟩, (.exit 80000000), ⟨[], []⟩⟩
def AL_ref12_build_1 : Lp := ⟨⟨[(1, (.dat (.list tapi_Pair))), (3, (.dat (.list (.list .str)))), (5, (.ptr 0 tapi_Pool 0 [])), (7, (.ptr 1 tapi_Span 0 [])), (9, (.ptr 2 tref12_Raw 0 [])), (10, (.ptr 3 tref12_built 0 [])), (14, (.ptr 4 tapi_Node 0 [])), (16, (.own tapi_Span 5)), (17, (.dat (.int .i64)))], [.box 32 tapi_Pool (.dat tapi_Pool), .box 62 tapi_Span (.dat tapi_Span), .box 26 tref12_Raw (.dat tref12_Raw), .box 107 tref12_built (.agg [(.agg [(.dat (.list tapi_Slot))]), (.dat (.int .i64))]), .box 98 tapi_Node (.agg [(.dat (.list tapi_Pair)), (.own .str 6), (.own (.int .i64) 7), (.own tapi_Sum 8), (.dat (.list tapi_Msg))]), .arr 62 tapi_Span false, .arr 9 .str true, .arr 3 (.int .i64) false, .arr 161 tapi_Sum false]⟩, (.exit 2), ⟨[(5, (.ptr 0 tapi_Pool 0 [])), (7, (.ptr 1 tapi_Span 0 [])), (9, (.ptr 2 tref12_Raw 0 [])), (10, (.ptr 3 tref12_built 0 [])), (14, (.ptr 4 tapi_Node 0 []))], [.box 32 tapi_Pool (.dat tapi_Pool), .box 62 tapi_Span (.dat tapi_Span), .box 26 tref12_Raw (.dat tref12_Raw), .box 107 tref12_built (.agg [(.agg [(.dat (.list tapi_Slot))]), (.dat (.int .i64))]), .box 98 tapi_Node (.agg [(.dat (.list tapi_Pair)), (.own .str 5), (.own (.int .i64) 6), (.own tapi_Sum 7), (.dat (.list tapi_Msg))]), .arr 9 .str true, .arr 3 (.int .i64) false, .arr 161 tapi_Sum false]⟩, (.exit 80000002), ⟨[], []⟩⟩
def AL_ref12_build_2 : Lp := ⟨⟨[(10, (.ptr 0 tref12_built 0 [])), (14, (.ptr 1 tapi_Node 0 [])), (22, (.ptr 2 tref11_Added 0 [])), (23, (.ptr 3 tapi_Pool 0 [])), (24, (.dat (.int .i64)))], [.box 107 tref12_built (.agg [(.agg [(.dat (.list tapi_Slot))]), (.dat (.int .i64))]), .box 98 tapi_Node (.agg [(.dat (.list tapi_Pair)), (.own .str 4), (.own (.int .i64) 5), (.own tapi_Sum 6), (.own tapi_Msg 7)]), .box 152 tref11_Added (.dat tref11_Added), .box 32 tapi_Pool (.dat tapi_Pool), .arr 9 .str true, .arr 3 (.int .i64) true, .arr 161 tapi_Sum true, .arr 64 tapi_Msg true]⟩, (.exit 4), ⟨[(10, (.ptr 0 tref12_built 0 [])), (22, (.ptr 1 tref11_Added 0 [])), (23, (.ptr 2 tapi_Pool 0 []))], [.box 107 tref12_built (.agg [(.agg [(.dat (.list tapi_Slot))]), (.dat (.int .i64))]), .box 152 tref11_Added (.dat tref11_Added), .box 32 tapi_Pool (.dat tapi_Pool)]⟩, (.exit 80000004), ⟨[], []⟩⟩
def AE_ref12_build : Ent := ⟨51, AS_ref12_build, AZ_ref12_build, ref12_build⟩
def AF_ref12_build (ref12_build_r : ((api_Pool) × (List (api_Pair)) × (api_Span) × (List (List (List UInt8))) × (ref12_Raw) × Unit) → Option ((ref12_built) × Unit)) : Fx := mkFx Acx (lookupG [AE_ref10_Spans, AE_ref04_Has, AE_ref04_Range, AE_ref11_Add, AE_ref10_Sum, AE_ref11_Drop, (AE_ref12_build_r ref12_build_r), AE_ref11_Get, AE_ref12_fitting]) (fun k st => bif Nat.beq k 0 then AL_ref12_build_0.go (ref12_build_l0 ref12_build_r) 0 st else bif Nat.beq k 2 then AL_ref12_build_1.go (ref12_build_l1 ref12_build_r) 0 st else bif Nat.beq k 4 then AL_ref12_build_2.go (ref12_build_l2 ref12_build_r) 0 st else .fail) 0
theorem ref12_build_b0_eq (ref12_build_r : ((api_Pool) × (List (api_Pair)) × (api_Span) × (List (List (List UInt8))) × (ref12_Raw) × Unit) → Option ((ref12_built) × Unit)) (s : AL_ref12_build_0.S.ty.den) : @Eq (Option (AL_ref12_build_0.S.ty.den ⊕ AL_ref12_build_0.Out)) (AL_ref12_build_0.body (AF_ref12_build ref12_build_r) (loopAt (bodyOf Tryz.f51) 0) 0 s).val (ref12_build_b0 ref12_build_r s) := by kernel_rfl
theorem ref12_build_b1_eq (ref12_build_r : ((api_Pool) × (List (api_Pair)) × (api_Span) × (List (List (List UInt8))) × (ref12_Raw) × Unit) → Option ((ref12_built) × Unit)) (s : AL_ref12_build_1.S.ty.den) : @Eq (Option (AL_ref12_build_1.S.ty.den ⊕ AL_ref12_build_1.Out)) (AL_ref12_build_1.body (AF_ref12_build ref12_build_r) (loopAt (bodyOf Tryz.f51) 1) 2 s).val (ref12_build_b1 ref12_build_r s) := by kernel_rfl
theorem ref12_build_b2_eq (ref12_build_r : ((api_Pool) × (List (api_Pair)) × (api_Span) × (List (List (List UInt8))) × (ref12_Raw) × Unit) → Option ((ref12_built) × Unit)) (s : AL_ref12_build_2.S.ty.den) : @Eq (Option (AL_ref12_build_2.S.ty.den ⊕ AL_ref12_build_2.Out)) (AL_ref12_build_2.body (AF_ref12_build ref12_build_r) (loopAt (bodyOf Tryz.f51) 2) 4 s).val (ref12_build_b2 ref12_build_r s) := by kernel_rfl
theorem ref12_build_eq (ref12_build_r : ((api_Pool) × (List (api_Pair)) × (api_Span) × (List (List (List UInt8))) × (ref12_Raw) × Unit) → Option ((ref12_built) × Unit)) (s : AS_ref12_build.ty.den) : @Eq (Option AZ_ref12_build.ty.den) (evFn (AF_ref12_build ref12_build_r) Tryz.f51 AS_ref12_build AZ_ref12_build s).val (ref12_build_step ref12_build_r s) := by kernel_rfl
theorem ref12_build_hG (ref12_build_r : ((api_Pool) × (List (api_Pair)) × (api_Span) × (List (List (List UInt8))) × (ref12_Raw) × Unit) → Option ((ref12_built) × Unit)) (ref12_build_r_ok : EntOK Tryz.prog (AE_ref12_build_r ref12_build_r)) : GSound Tryz.prog (AF_ref12_build ref12_build_r).Γ := ents_sound ⟨(ref10_Spans_ox), (ref04_Has_ox), (ref04_Range_ox), (ref11_Add_ox), (ref10_Sum_ox), (ref11_Drop_ox), (ref12_build_r_ok.x (by kernel_rfl)), (ref11_Get_ox), (ref12_fitting_ox), trivial⟩
theorem ref12_build_la0 (ref12_build_r : ((api_Pool) × (List (api_Pair)) × (api_Span) × (List (List (List UInt8))) × (ref12_Raw) × Unit) → Option ((ref12_built) × Unit)) (ref12_build_r_ok : EntOK Tryz.prog (AE_ref12_build_r ref12_build_r)) : LamOK Tryz.prog (AF_ref12_build ref12_build_r) Tryz.f51.ntmps 0 (loopAt (bodyOf Tryz.f51) 0) :=
  lam_sound Atab (ref12_build_hG ref12_build_r ref12_build_r_ok) Amixed (L := AL_ref12_build_0) (f := ref12_build_l0 ref12_build_r) (b := ref12_build_b0 ref12_build_r) (m := []) (fun _ => rfl) (by kernel_rfl) (by kernel_rfl) trivial (by kernel_rfl) (rfOK_no _ (by kernel_rfl)) (ref12_build_b0_eq ref12_build_r)
theorem ref12_build_la1 (ref12_build_r : ((api_Pool) × (List (api_Pair)) × (api_Span) × (List (List (List UInt8))) × (ref12_Raw) × Unit) → Option ((ref12_built) × Unit)) (ref12_build_r_ok : EntOK Tryz.prog (AE_ref12_build_r ref12_build_r)) : LamOK Tryz.prog (AF_ref12_build ref12_build_r) Tryz.f51.ntmps 2 (loopAt (bodyOf Tryz.f51) 1) :=
  lam_sound Atab (ref12_build_hG ref12_build_r ref12_build_r_ok) Amixed (L := AL_ref12_build_1) (f := ref12_build_l1 ref12_build_r) (b := ref12_build_b1 ref12_build_r) (m := []) (fun _ => rfl) (by kernel_rfl) (by kernel_rfl) trivial (by kernel_rfl) (rfOK_no _ (by kernel_rfl)) (ref12_build_b1_eq ref12_build_r)
theorem ref12_build_la2 (ref12_build_r : ((api_Pool) × (List (api_Pair)) × (api_Span) × (List (List (List UInt8))) × (ref12_Raw) × Unit) → Option ((ref12_built) × Unit)) (ref12_build_r_ok : EntOK Tryz.prog (AE_ref12_build_r ref12_build_r)) : LamOK Tryz.prog (AF_ref12_build ref12_build_r) Tryz.f51.ntmps 4 (loopAt (bodyOf Tryz.f51) 2) :=
  lam_sound Atab (ref12_build_hG ref12_build_r ref12_build_r_ok) Amixed (L := AL_ref12_build_2) (f := ref12_build_l2 ref12_build_r) (b := ref12_build_b2 ref12_build_r) (m := []) (fun _ => rfl) (by kernel_rfl) (by kernel_rfl) trivial (by kernel_rfl) (rfOK_no _ (by kernel_rfl)) (ref12_build_b2_eq ref12_build_r)
theorem ref12_build_step_ok (ref12_build_r : ((api_Pool) × (List (api_Pair)) × (api_Span) × (List (List (List UInt8))) × (ref12_Raw) × Unit) → Option ((ref12_built) × Unit)) (ref12_build_r_ok : EntOK Tryz.prog (AE_ref12_build_r ref12_build_r)) : EntOK Tryz.prog ⟨51, AS_ref12_build, AZ_ref12_build, ref12_build_step ref12_build_r⟩ :=
  fun_sound (F := (AF_ref12_build ref12_build_r)) Atab (ref12_build_hG ref12_build_r ref12_build_r_ok) Amixed (fn := Tryz.f51) (m := [(0, loopAt (bodyOf Tryz.f51) 0), (2, loopAt (bodyOf Tryz.f51) 1), (4, loopAt (bodyOf Tryz.f51) 2)]) Tryz.func51 (by kernel_rfl) (by kernel_rfl) (by kernel_rfl) ⟨ref12_build_la0 ref12_build_r ref12_build_r_ok, ref12_build_la1 ref12_build_r ref12_build_r_ok, ref12_build_la2 ref12_build_r ref12_build_r_ok, trivial⟩ (rfOK_no _ (by kernel_rfl)) (by kernel_rfl) (ref12_build_eq ref12_build_r)
theorem ref12_build_fuel_ok : ∀ n, EntOK Tryz.prog ⟨51, AS_ref12_build, AZ_ref12_build, ref12_build_fuel n⟩
  | 0 => ent_none
  | n + 1 => ref12_build_step_ok _ (ref12_build_fuel_ok n)
theorem ref12_build_ok : EntOK Tryz.prog (AE_ref12_build) := ref12_build_fuel_ok huge
theorem ref12_build_ox : EntX Tryz.prog (AE_ref12_build) := (ref12_build_ok).x (by kernel_rfl)
def AS_ref12_Made : Shape := ⟨[(0, (.dat tref12_Raw))], []⟩
def AZ_ref12_Made : Shape := ⟨[(0, (.dat tapi_Tree))], []⟩
def AE_ref12_Made : Ent := ⟨12, AS_ref12_Made, AZ_ref12_Made, ref12_Made⟩
def AF_ref12_Made : Fx := mkFx Acx (lookupG [AE_ref04_Made, AE_ref12_build]) (fun k st => .fail) 0
theorem ref12_Made_eq (s : AS_ref12_Made.ty.den) : @Eq (Option AZ_ref12_Made.ty.den) (evFn (AF_ref12_Made) Tryz.f12 AS_ref12_Made AZ_ref12_Made s).val (ref12_Made s) := by kernel_rfl
theorem ref12_Made_hG : GSound Tryz.prog (AF_ref12_Made).Γ := ents_sound ⟨(ref04_Made_ox), (ref12_build_ox), trivial⟩
theorem ref12_Made_ok : EntOK Tryz.prog (AE_ref12_Made) :=
  fun_sound (F := (AF_ref12_Made)) Atab (ref12_Made_hG) Amixed (fn := Tryz.f12) (m := []) Tryz.func12 (by kernel_rfl) (by kernel_rfl) (by kernel_rfl) trivial (rfOK_no _ (by kernel_rfl)) (by kernel_rfl) (ref12_Made_eq)
theorem ref12_Made_ox : EntX Tryz.prog (AE_ref12_Made) := (ref12_Made_ok).x (by kernel_rfl)
def AL_tree_Height_0 : Lp := ⟨⟨[(1, (.ptr 0 tapi_Tree 0 [])), (3, (.ptr 1 tapi_Node 0 [])), (5, (.dat (.int .i64)))], [.box 36 tapi_Tree (.dat tapi_Tree), .box 98 tapi_Node (.dat tapi_Node)]⟩, (.exit 0), ⟨[(5, (.dat (.int .i64)))], []⟩, (.exit 80000000), ⟨[], []⟩⟩
def AS_tree_Height : Shape := ⟨[(0, (.dat tapi_Tree))], []⟩
def AZ_tree_Height : Shape := ⟨[(0, (.dat (.int .i64)))], []⟩
def AE_tree_Height : Ent := ⟨26, AS_tree_Height, AZ_tree_Height, tree_Height⟩
def AF_tree_Height : Fx := mkFx Acx (lookupG [AE_pool_Get, AE_tree_leaf]) (fun k st => bif Nat.beq k 0 then AL_tree_Height_0.go (tree_Height_l0) 0 st else .fail) 0
theorem tree_Height_b0_eq (s : AL_tree_Height_0.S.ty.den) : @Eq (Option (AL_tree_Height_0.S.ty.den ⊕ AL_tree_Height_0.Out)) (AL_tree_Height_0.body (AF_tree_Height) (loopAt (bodyOf Tryz.f26) 0) 0 s).val (tree_Height_b0 s) := by kernel_rfl
theorem tree_Height_eq (s : AS_tree_Height.ty.den) : @Eq (Option AZ_tree_Height.ty.den) (evFn (AF_tree_Height) Tryz.f26 AS_tree_Height AZ_tree_Height s).val (tree_Height s) := by kernel_rfl
theorem tree_Height_hG : GSound Tryz.prog (AF_tree_Height).Γ := ents_sound ⟨(pool_Get_ox), (tree_leaf_ox), trivial⟩
theorem tree_Height_la0 : LamOK Tryz.prog (AF_tree_Height) Tryz.f26.ntmps 0 (loopAt (bodyOf Tryz.f26) 0) :=
  lam_sound Atab (tree_Height_hG) Amixed (L := AL_tree_Height_0) (f := tree_Height_l0) (b := tree_Height_b0) (m := []) (fun _ => rfl) (by kernel_rfl) (by kernel_rfl) trivial (by kernel_rfl) (rfOK_no _ (by kernel_rfl)) (tree_Height_b0_eq)
theorem tree_Height_ok : EntOK Tryz.prog (AE_tree_Height) :=
  fun_sound (F := (AF_tree_Height)) Atab (tree_Height_hG) Amixed (fn := Tryz.f26) (m := [(0, loopAt (bodyOf Tryz.f26) 0)]) Tryz.func26 (by kernel_rfl) (by kernel_rfl) (by kernel_rfl) ⟨tree_Height_la0, trivial⟩ (rfOK_no _ (by kernel_rfl)) (by kernel_rfl) (tree_Height_eq)
theorem tree_Height_ox : EntX Tryz.prog (AE_tree_Height) := (tree_Height_ok).x (by kernel_rfl)
def AS_law30_CostReads : Shape := ⟨[(0, (.dat tref12_Raw)), (1, (.dat (.int .u8)))], []⟩
def AZ_law30_CostReads : Shape := ⟨[(0, (.dat .bool))], []⟩
def AE_law30_CostReads : Ent := ⟨4, AS_law30_CostReads, AZ_law30_CostReads, law30_CostReads⟩
def AF_law30_CostReads : Fx := mkFx Acx (lookupG [AE_tree_Get, AE_cost_Reads, AE_law30_sanity, AE_ref04_Key, AE_ref12_Made, AE_tree_Height]) (fun k st => .fail) 0
theorem law30_CostReads_eq (s : AS_law30_CostReads.ty.den) : @Eq (Option AZ_law30_CostReads.ty.den) (evFn (AF_law30_CostReads) Tryz.f4 AS_law30_CostReads AZ_law30_CostReads s).val (law30_CostReads s) := by kernel_rfl
theorem law30_CostReads_hG : GSound Tryz.prog (AF_law30_CostReads).Γ := ents_sound ⟨(tree_Get_ox), (cost_Reads_ox), (law30_sanity_ox), (ref04_Key_ox), (ref12_Made_ox), (tree_Height_ox), trivial⟩
theorem law30_CostReads_ok : EntOK Tryz.prog (AE_law30_CostReads) :=
  fun_sound (F := (AF_law30_CostReads)) Atab (law30_CostReads_hG) Amixed (fn := Tryz.f4) (m := []) Tryz.func4 (by kernel_rfl) (by kernel_rfl) (by kernel_rfl) trivial (rfOK_no _ (by kernel_rfl)) (by kernel_rfl) (law30_CostReads_eq)
theorem law30_CostReads_ox : EntX Tryz.prog (AE_law30_CostReads) := (law30_CostReads_ok).x (by kernel_rfl)


end D
