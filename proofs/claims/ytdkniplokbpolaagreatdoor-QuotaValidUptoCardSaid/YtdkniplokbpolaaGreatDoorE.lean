/- Entries, by program. -/
import Derived.Test.YtdkniplokbpolaaGreatDoorL
import Derived.Test.YtdkniplokbpolaaGreatDoorD
import Derived.Test.YtdkniplokbpolaaGreatDoorChecked
set_option linter.unusedVariables false
set_option maxRecDepth 100000
open Go Go.X Go.Proofs D
namespace D
def Acx : Cx := ⟨[(3, ⟨(.int .i64), 0, [], 8, false, false, false, []⟩), (4, ⟨.bool, 0, [], 1, false, false, false, []⟩), (5, ⟨(.int .u8), 0, [], 1, false, false, false, []⟩), (9, ⟨.str, 0, [], 16, false, false, false, []⟩), (20, ⟨.opq, 0, [], 16, false, false, true, []⟩), (21, ⟨(.int .i32), 0, [], 4, false, false, false, []⟩), (22, ⟨(.list (.pair (.int .u8) (.pair (.int .u8) (.pair (.int .u8) .unit)))), 51, [], 3, false, false, false, []⟩), (25, ⟨(.list tapi_Pair), 58, [], 40, false, false, false, []⟩), (27, ⟨(.list tapi_Quota), 45, [], 32, false, false, false, []⟩), (29, ⟨(.list tapi_Msg), 38, [], 112, false, false, false, []⟩), (32, ⟨tapi_Use, 0, [3, 3], 16, true, false, false, []⟩), (36, ⟨tapi_Span, 0, [9, 9], 32, true, false, false, []⟩), (38, ⟨tapi_Msg, 0, [3, 9, 9, 36, 9, 9, 3], 112, true, false, false, []⟩), (45, ⟨tapi_Quota, 0, [9, 32], 32, true, false, false, []⟩), (47, ⟨(.int .i64), 0, [], 8, false, false, false, []⟩), (51, ⟨(.pair (.int .u8) (.pair (.int .u8) (.pair (.int .u8) .unit))), 0, [5, 5, 5], 3, false, true, false, []⟩), (54, ⟨(.list tapi_Span), 36, [], 32, false, false, false, []⟩), (58, ⟨tapi_Pair, 0, [9, 9, 3], 40, true, false, false, []⟩), (76, ⟨(.list (.int .u8)), 5, [], 1, false, false, false, []⟩), (81, ⟨tquota_amount, 0, [32], 16, true, false, false, []⟩), (83, ⟨tquota_measured, 0, [81, 9], 32, true, false, false, []⟩), (88, ⟨.opq, 0, [], 8, false, true, false, []⟩), (90, ⟨.opq, 0, [], 8, false, true, false, []⟩), (100, ⟨(.list .str), 9, [], 16, false, false, false, []⟩), (102, ⟨tapi_Place, 0, [9, 3, 3, 9], 48, true, false, false, []⟩), (110, ⟨(.int .u64), 0, [], 8, false, false, false, []⟩), (125, ⟨(.int .i64), 0, [], 8, false, false, false, []⟩), (132, ⟨(.int .u32), 0, [], 4, false, false, false, []⟩), (134, ⟨(.int .u64), 0, [], 8, false, false, false, []⟩), (136, ⟨.opq, 0, [], 16, false, false, true, []⟩), (140, ⟨.opq, 0, [], 8, false, true, false, []⟩), (144, ⟨(.int .u64), 0, [], 8, false, false, false, []⟩), (148, ⟨.opq, 0, [], 8, false, false, false, []⟩), (150, ⟨tapi_Msg, 0, [3, 9, 9, 36, 9, 9, 3], 112, true, false, false, [("downspout/msg.apply", 174)]⟩), (151, ⟨tapi_Msg, 0, [3, 9, 9, 36, 9, 9, 3], 112, true, false, false, [("downspout/msg.apply", 187)]⟩), (152, ⟨tapi_Msg, 0, [3, 9, 9, 36, 9, 9, 3], 112, true, false, false, [("downspout/msg.apply", 198)]⟩), (153, ⟨tapi_Msg, 0, [3, 9, 9, 36, 9, 9, 3], 112, true, false, false, [("downspout/msg.apply", 204)]⟩), (154, ⟨tapi_Msg, 0, [3, 9, 9, 36, 9, 9, 3], 112, true, false, false, [("downspout/msg.apply", 210)]⟩), (155, ⟨tapi_Msg, 0, [3, 9, 9, 36, 9, 9, 3], 112, true, false, false, [("downspout/msg.apply", 218)]⟩), (158, ⟨.opq, 0, [], 8, false, false, false, []⟩), (160, ⟨(.pair .str .unit), 0, [9], 16, true, false, false, []⟩), (162, ⟨tpath_place, 0, [160, 102], 64, true, false, false, []⟩), (164, ⟨.opq, 0, [], 8, false, true, false, []⟩), (165, ⟨.opq, 0, [], 8, false, false, false, []⟩), (174, ⟨.opq, 0, [], 8, false, false, false, []⟩), (184, ⟨.opq, 0, [], 8, false, false, false, []⟩), (190, ⟨(.pair (.int .u8) (.pair (.int .u8) .unit)), 0, [5, 5], 2, true, false, false, []⟩), (191, ⟨(.pair (.pair (.int .u8) (.pair (.int .u8) .unit)) (.pair (.pair (.int .u8) (.pair (.int .u8) .unit)) (.pair (.pair (.int .u8) (.pair (.int .u8) .unit)) (.pair (.pair (.int .u8) (.pair (.int .u8) .unit)) (.pair (.pair (.int .u8) (.pair (.int .u8) .unit)) (.pair (.pair (.int .u8) (.pair (.int .u8) .unit)) (.pair (.pair (.int .u8) (.pair (.int .u8) .unit)) (.pair (.pair (.int .u8) (.pair (.int .u8) .unit)) (.pair (.pair (.int .u8) (.pair (.int .u8) .unit)) (.pair (.pair (.int .u8) (.pair (.int .u8) .unit)) (.pair (.pair (.int .u8) (.pair (.int .u8) .unit)) (.pair (.pair (.int .u8) (.pair (.int .u8) .unit)) (.pair (.pair (.int .u8) (.pair (.int .u8) .unit)) (.pair (.pair (.int .u8) (.pair (.int .u8) .unit)) (.pair (.pair (.int .u8) (.pair (.int .u8) .unit)) (.pair (.pair (.int .u8) (.pair (.int .u8) .unit)) .unit)))))))))))))))), 0, [190, 190, 190, 190, 190, 190, 190, 190, 190, 190, 190, 190, 190, 190, 190, 190], 32, false, true, false, []⟩), (216, ⟨(.list (.list tapi_Pair)), 25, [], 24, false, false, false, []⟩)], rawIn [(127, 0), (117, 0), (116, 0), (52, 0), (96, 0), (185, 0), (108, 0), (76, 0), (85, 0), (184, 0), (186, 0), (197, 0), (182, 0), (113, 0), (120, 0), (100, 0), (99, 0), (98, 0), (97, 0), (95, 0), (94, 0), (93, 0), (66, 0), (65, 0), (84, 0), (84, 1), (183, 0), (183, 1), (66, 0), (66, 2), (182, 0), (182, 2)]⟩
theorem Atab : TabOK Tryz.prog Acx := tab_soundE (by kernel_rfl)
theorem Amixed : Tryz.prog.follows .mixedOrders = true := by kernel_rfl
def AS_law20_sample : Shape := ⟨[], []⟩
def AZ_law20_sample : Shape := ⟨[(0, (.own tapi_Pair 0))], [.arr 58 tapi_Pair false]⟩
def AE_law20_sample : Ent := ⟨45, AS_law20_sample, AZ_law20_sample, law20_sample⟩
def AF_law20_sample : Fx := ⟨Acx, lookupG [], fun k st => .fail, fun _ => none, 0⟩
theorem law20_sample_eq (s : AS_law20_sample.ty.den) : @Eq (Option AZ_law20_sample.ty.den) (evFn AF_law20_sample Tryz.f45 AS_law20_sample AZ_law20_sample s).val (law20_sample s) := by kernel_rfl
theorem law20_sample_hG : GSound Tryz.prog AF_law20_sample.Γ := ents_sound trivial
theorem law20_sample_ok : EntOK Tryz.prog AE_law20_sample :=
  fun_sound (F := AF_law20_sample) Atab law20_sample_hG Amixed (fn := Tryz.f45) (m := []) Tryz.func45 (by kernel_rfl) (by kernel_rfl) (by kernel_rfl) trivial (by kernel_rfl) law20_sample_eq
def AL_span_Prefix_0 : Lp := ⟨⟨[(0, (.dat .str)), (2, (.ptr 0 tapi_Span 0 [])), (3, (.own (.int .u8) 1))], [.box 36 tapi_Span (.agg [(.dat .str), (.dat .str)]), .arr 5 (.int .u8) false]⟩, (.exit 0), ⟨[(0, (.dat .str)), (2, (.ptr 0 tapi_Span 0 [])), (3, (.own (.int .u8) 1))], [.box 36 tapi_Span (.agg [(.dat .str), (.dat .str)]), .arr 5 (.int .u8) false]⟩, (.exit 80000000), ⟨[], []⟩⟩
def AS_span_Prefix : Shape := ⟨[(0, (.dat .str))], []⟩
def AZ_span_Prefix : Shape := ⟨[(0, (.dat tapi_Span))], []⟩
def AE_span_Prefix : Ent := ⟨73, AS_span_Prefix, AZ_span_Prefix, span_Prefix⟩
def AF_span_Prefix : Fx := ⟨Acx, lookupG [], fun k st => bif Nat.beq k 0 then AL_span_Prefix_0.go (span_Prefix_l0) 0 st else .fail, fun _ => none, 0⟩
theorem span_Prefix_b0_eq (s : AL_span_Prefix_0.S.ty.den) : @Eq (Option (AL_span_Prefix_0.S.ty.den ⊕ AL_span_Prefix_0.Out)) (AL_span_Prefix_0.body AF_span_Prefix (loopAt (bodyOf Tryz.f73) 0) 0 s).val (span_Prefix_b0 s) := by kernel_rfl
theorem span_Prefix_eq (s : AS_span_Prefix.ty.den) : @Eq (Option AZ_span_Prefix.ty.den) (evFn AF_span_Prefix Tryz.f73 AS_span_Prefix AZ_span_Prefix s).val (span_Prefix s) := by kernel_rfl
theorem span_Prefix_hG : GSound Tryz.prog AF_span_Prefix.Γ := ents_sound trivial
theorem span_Prefix_la0 : LamOK Tryz.prog AF_span_Prefix Tryz.f73.ntmps 0 (loopAt (bodyOf Tryz.f73) 0) :=
  lam_sound Atab span_Prefix_hG Amixed (L := AL_span_Prefix_0) (f := span_Prefix_l0) (b := span_Prefix_b0) (m := []) (fun _ => rfl) (by kernel_rfl) (by kernel_rfl) trivial (by kernel_rfl) span_Prefix_b0_eq
theorem span_Prefix_ok : EntOK Tryz.prog AE_span_Prefix :=
  fun_sound (F := AF_span_Prefix) Atab span_Prefix_hG Amixed (fn := Tryz.f73) (m := [(0, loopAt (bodyOf Tryz.f73) 0)]) Tryz.func73 (by kernel_rfl) (by kernel_rfl) (by kernel_rfl) ⟨span_Prefix_la0, trivial⟩ (by kernel_rfl) span_Prefix_eq
def AS_span_Empty : Shape := ⟨[(0, (.dat tapi_Span))], []⟩
def AZ_span_Empty : Shape := ⟨[(0, (.dat .bool))], []⟩
def AE_span_Empty : Ent := ⟨111, AS_span_Empty, AZ_span_Empty, span_Empty⟩
def AF_span_Empty : Fx := ⟨Acx, lookupG [], fun k st => .fail, fun _ => none, 0⟩
theorem span_Empty_eq (s : AS_span_Empty.ty.den) : @Eq (Option AZ_span_Empty.ty.den) (evFn AF_span_Empty Tryz.f111 AS_span_Empty AZ_span_Empty s).val (span_Empty s) := by kernel_rfl
theorem span_Empty_hG : GSound Tryz.prog AF_span_Empty.Γ := ents_sound trivial
theorem span_Empty_ok : EntOK Tryz.prog AE_span_Empty :=
  fun_sound (F := AF_span_Empty) Atab span_Empty_hG Amixed (fn := Tryz.f111) (m := []) Tryz.func111 (by kernel_rfl) (by kernel_rfl) (by kernel_rfl) trivial (by kernel_rfl) span_Empty_eq
def AS_internal_bytealg_CompareString : Shape := ⟨[(0, (.dat .str)), (1, (.dat .str))], []⟩
def AZ_internal_bytealg_CompareString : Shape := ⟨[(0, (.dat (.int .i64)))], []⟩
def AE_internal_bytealg_CompareString : Ent := ⟨135, AS_internal_bytealg_CompareString, AZ_internal_bytealg_CompareString, internal_bytealg_CompareString⟩
set_option maxHeartbeats 1000000 in
theorem internal_bytealg_CompareString_calls (a b : ByteArray) (w : World) : Calls Tryz.prog 135 #[.string a, .string b] w fun e w' => e = .returned (.int .i64 (Lib.compareBytes a.data.toList b.data.toList)) ∧ w' = w := by
  go_enter Tryz.func135, Tryz.ntmps135
  go_wp2
  rw [run_callFunc_extern Tryz.func140 (by kernel_rfl) (by kernel_rfl) (by kernel_rfl) (e := Extern.BytealgCompare.compare) (by kernel_rfl), Lib.run_compareString]
  simp only [Result.andThen]
  rw [Oper.upon_value]
  go_wp2
  go_ret
  exact ⟨rfl, rfl⟩
theorem internal_bytealg_CompareString_ok : EntOK Tryz.prog AE_internal_bytealg_CompareString := ext_ss (g := fun a b => Lib.compareBytes a b) Tryz.func135 (by kernel_rfl) internal_bytealg_CompareString_calls
def AS_strings_Compare : Shape := ⟨[(0, (.dat .str)), (1, (.dat .str))], []⟩
def AZ_strings_Compare : Shape := ⟨[(0, (.dat (.int .i64)))], []⟩
def AE_strings_Compare : Ent := ⟨126, AS_strings_Compare, AZ_strings_Compare, strings_Compare⟩
def AF_strings_Compare : Fx := ⟨Acx, lookupG [AE_internal_bytealg_CompareString], fun k st => .fail, fun _ => none, 0⟩
theorem strings_Compare_eq (s : AS_strings_Compare.ty.den) : @Eq (Option AZ_strings_Compare.ty.den) (evFn AF_strings_Compare Tryz.f126 AS_strings_Compare AZ_strings_Compare s).val (strings_Compare s) := by kernel_rfl
theorem strings_Compare_hG : GSound Tryz.prog AF_strings_Compare.Γ := ents_sound ⟨internal_bytealg_CompareString_ok, trivial⟩
theorem strings_Compare_ok : EntOK Tryz.prog AE_strings_Compare :=
  fun_sound (F := AF_strings_Compare) Atab strings_Compare_hG Amixed (fn := Tryz.f126) (m := []) Tryz.func126 (by kernel_rfl) (by kernel_rfl) (by kernel_rfl) trivial (by kernel_rfl) strings_Compare_eq
def AS_table_placeC1 : Shape := ⟨[(0, (.dat tapi_Pair)), (1, (.dat .str))], []⟩
def AZ_table_placeC1 : Shape := ⟨[(0, (.dat (.int .i64)))], []⟩
def AE_table_placeC1 : Ent := ⟨125, AS_table_placeC1, AZ_table_placeC1, table_placeC1⟩
def AF_table_placeC1 : Fx := ⟨Acx, lookupG [AE_strings_Compare], fun k st => .fail, fun _ => none, 0⟩
theorem table_placeC1_eq (s : AS_table_placeC1.ty.den) : @Eq (Option AZ_table_placeC1.ty.den) (evFn AF_table_placeC1 Tryz.f125 AS_table_placeC1 AZ_table_placeC1 s).val (table_placeC1 s) := by kernel_rfl
theorem table_placeC1_hG : GSound Tryz.prog AF_table_placeC1.Γ := ents_sound ⟨strings_Compare_ok, trivial⟩
theorem table_placeC1_ok : EntOK Tryz.prog AE_table_placeC1 :=
  fun_sound (F := AF_table_placeC1) Atab table_placeC1_hG Amixed (fn := Tryz.f125) (m := []) Tryz.func125 (by kernel_rfl) (by kernel_rfl) (by kernel_rfl) trivial (by kernel_rfl) table_placeC1_eq
def AL_slices_BinarySearchFunc_api_Pair_api_Pair_string_0 : Lp := ⟨⟨[(0, (.dat (.list tapi_Pair))), (1, (.dat .str)), (2, (.fn 125 [] [])), (8, (.dat (.int .i64))), (9, (.dat (.int .i64))), (10, (.dat (.int .i64)))], []⟩, (.exit 0), ⟨[(0, (.dat (.list tapi_Pair))), (1, (.dat .str)), (2, (.fn 125 [] [])), (8, (.dat (.int .i64))), (9, (.dat (.int .i64)))], []⟩, (.exit 80000000), ⟨[], []⟩⟩
def AS_slices_BinarySearchFunc_api_Pair_api_Pair_string : Shape := ⟨[(0, (.dat (.list tapi_Pair))), (1, (.dat .str)), (2, (.fn 125 [] []))], []⟩
def AZ_slices_BinarySearchFunc_api_Pair_api_Pair_string : Shape := ⟨[(0, (.dat (.int .i64))), (1, (.dat .bool))], []⟩
def AE_slices_BinarySearchFunc_api_Pair_api_Pair_string : Ent := ⟨124, AS_slices_BinarySearchFunc_api_Pair_api_Pair_string, AZ_slices_BinarySearchFunc_api_Pair_api_Pair_string, slices_BinarySearchFunc_api_Pair_api_Pair_string⟩
def AF_slices_BinarySearchFunc_api_Pair_api_Pair_string : Fx := ⟨Acx, lookupG [AE_table_placeC1], fun k st => bif Nat.beq k 0 then AL_slices_BinarySearchFunc_api_Pair_api_Pair_string_0.go (slices_BinarySearchFunc_api_Pair_api_Pair_string_l0) 0 st else .fail, fun _ => none, 0⟩
theorem slices_BinarySearchFunc_api_Pair_api_Pair_string_b0_eq (s : AL_slices_BinarySearchFunc_api_Pair_api_Pair_string_0.S.ty.den) : @Eq (Option (AL_slices_BinarySearchFunc_api_Pair_api_Pair_string_0.S.ty.den ⊕ AL_slices_BinarySearchFunc_api_Pair_api_Pair_string_0.Out)) (AL_slices_BinarySearchFunc_api_Pair_api_Pair_string_0.body AF_slices_BinarySearchFunc_api_Pair_api_Pair_string (loopAt (bodyOf Tryz.f124) 0) 0 s).val (slices_BinarySearchFunc_api_Pair_api_Pair_string_b0 s) := by kernel_rfl
theorem slices_BinarySearchFunc_api_Pair_api_Pair_string_eq (s : AS_slices_BinarySearchFunc_api_Pair_api_Pair_string.ty.den) : @Eq (Option AZ_slices_BinarySearchFunc_api_Pair_api_Pair_string.ty.den) (evFn AF_slices_BinarySearchFunc_api_Pair_api_Pair_string Tryz.f124 AS_slices_BinarySearchFunc_api_Pair_api_Pair_string AZ_slices_BinarySearchFunc_api_Pair_api_Pair_string s).val (slices_BinarySearchFunc_api_Pair_api_Pair_string s) := by kernel_rfl
theorem slices_BinarySearchFunc_api_Pair_api_Pair_string_hG : GSound Tryz.prog AF_slices_BinarySearchFunc_api_Pair_api_Pair_string.Γ := ents_sound ⟨table_placeC1_ok, trivial⟩
theorem slices_BinarySearchFunc_api_Pair_api_Pair_string_la0 : LamOK Tryz.prog AF_slices_BinarySearchFunc_api_Pair_api_Pair_string Tryz.f124.ntmps 0 (loopAt (bodyOf Tryz.f124) 0) :=
  lam_sound Atab slices_BinarySearchFunc_api_Pair_api_Pair_string_hG Amixed (L := AL_slices_BinarySearchFunc_api_Pair_api_Pair_string_0) (f := slices_BinarySearchFunc_api_Pair_api_Pair_string_l0) (b := slices_BinarySearchFunc_api_Pair_api_Pair_string_b0) (m := []) (fun _ => rfl) (by kernel_rfl) (by kernel_rfl) trivial (by kernel_rfl) slices_BinarySearchFunc_api_Pair_api_Pair_string_b0_eq
theorem slices_BinarySearchFunc_api_Pair_api_Pair_string_ok : EntOK Tryz.prog AE_slices_BinarySearchFunc_api_Pair_api_Pair_string :=
  fun_sound (F := AF_slices_BinarySearchFunc_api_Pair_api_Pair_string) Atab slices_BinarySearchFunc_api_Pair_api_Pair_string_hG Amixed (fn := Tryz.f124) (m := [(0, loopAt (bodyOf Tryz.f124) 0)]) Tryz.func124 (by kernel_rfl) (by kernel_rfl) (by kernel_rfl) ⟨slices_BinarySearchFunc_api_Pair_api_Pair_string_la0, trivial⟩ (by kernel_rfl) slices_BinarySearchFunc_api_Pair_api_Pair_string_eq
def AS_table_place : Shape := ⟨[(0, (.dat (.list tapi_Pair))), (1, (.dat .str))], []⟩
def AZ_table_place : Shape := ⟨[(0, (.dat (.int .i64))), (1, (.dat .bool))], []⟩
def AE_table_place : Ent := ⟨112, AS_table_place, AZ_table_place, table_place⟩
def AF_table_place : Fx := ⟨Acx, lookupG [AE_slices_BinarySearchFunc_api_Pair_api_Pair_string], fun k st => .fail, fun _ => none, 0⟩
theorem table_place_eq (s : AS_table_place.ty.den) : @Eq (Option AZ_table_place.ty.den) (evFn AF_table_place Tryz.f112 AS_table_place AZ_table_place s).val (table_place s) := by kernel_rfl
theorem table_place_hG : GSound Tryz.prog AF_table_place.Γ := ents_sound ⟨slices_BinarySearchFunc_api_Pair_api_Pair_string_ok, trivial⟩
theorem table_place_ok : EntOK Tryz.prog AE_table_place :=
  fun_sound (F := AF_table_place) Atab table_place_hG Amixed (fn := Tryz.f112) (m := []) Tryz.func112 (by kernel_rfl) (by kernel_rfl) (by kernel_rfl) trivial (by kernel_rfl) table_place_eq
def AS_table_bounds : Shape := ⟨[(0, (.dat (.list tapi_Pair))), (1, (.dat tapi_Span))], []⟩
def AZ_table_bounds : Shape := ⟨[(0, (.dat (.int .i64))), (1, (.dat (.int .i64)))], []⟩
def AE_table_bounds : Ent := ⟨91, AS_table_bounds, AZ_table_bounds, table_bounds⟩
def AF_table_bounds : Fx := ⟨Acx, lookupG [AE_span_Empty, AE_table_place], fun k st => .fail, fun _ => none, 0⟩
theorem table_bounds_eq (s : AS_table_bounds.ty.den) : @Eq (Option AZ_table_bounds.ty.den) (evFn AF_table_bounds Tryz.f91 AS_table_bounds AZ_table_bounds s).val (table_bounds s) := by kernel_rfl
theorem table_bounds_hG : GSound Tryz.prog AF_table_bounds.Γ := ents_sound ⟨span_Empty_ok, table_place_ok, trivial⟩
theorem table_bounds_ok : EntOK Tryz.prog AE_table_bounds :=
  fun_sound (F := AF_table_bounds) Atab table_bounds_hG Amixed (fn := Tryz.f91) (m := []) Tryz.func91 (by kernel_rfl) (by kernel_rfl) (by kernel_rfl) trivial (by kernel_rfl) table_bounds_eq
def AS_table_Range : Shape := ⟨[(0, (.dat (.list tapi_Pair))), (1, (.dat tapi_Span))], []⟩
def AZ_table_Range : Shape := ⟨[(0, (.dat (.list tapi_Pair)))], []⟩
def AE_table_Range : Ent := ⟨72, AS_table_Range, AZ_table_Range, table_Range⟩
def AF_table_Range : Fx := ⟨Acx, lookupG [AE_table_bounds], fun k st => .fail, fun _ => none, 0⟩
theorem table_Range_eq (s : AS_table_Range.ty.den) : @Eq (Option AZ_table_Range.ty.den) (evFn AF_table_Range Tryz.f72 AS_table_Range AZ_table_Range s).val (table_Range s) := by kernel_rfl
theorem table_Range_hG : GSound Tryz.prog AF_table_Range.Γ := ents_sound ⟨table_bounds_ok, trivial⟩
theorem table_Range_ok : EntOK Tryz.prog AE_table_Range :=
  fun_sound (F := AF_table_Range) Atab table_Range_hG Amixed (fn := Tryz.f72) (m := []) Tryz.func72 (by kernel_rfl) (by kernel_rfl) (by kernel_rfl) trivial (by kernel_rfl) table_Range_eq
def AS_internal_stringslite_HasPrefix : Shape := ⟨[(0, (.dat .str)), (1, (.dat .str))], []⟩
def AZ_internal_stringslite_HasPrefix : Shape := ⟨[(0, (.dat .bool))], []⟩
def AE_internal_stringslite_HasPrefix : Ent := ⟨74, AS_internal_stringslite_HasPrefix, AZ_internal_stringslite_HasPrefix, internal_stringslite_HasPrefix⟩
def AF_internal_stringslite_HasPrefix : Fx := ⟨Acx, lookupG [], fun k st => .fail, fun _ => none, 0⟩
theorem internal_stringslite_HasPrefix_eq (s : AS_internal_stringslite_HasPrefix.ty.den) : @Eq (Option AZ_internal_stringslite_HasPrefix.ty.den) (evFn AF_internal_stringslite_HasPrefix Tryz.f74 AS_internal_stringslite_HasPrefix AZ_internal_stringslite_HasPrefix s).val (internal_stringslite_HasPrefix s) := by kernel_rfl
theorem internal_stringslite_HasPrefix_hG : GSound Tryz.prog AF_internal_stringslite_HasPrefix.Γ := ents_sound trivial
theorem internal_stringslite_HasPrefix_ok : EntOK Tryz.prog AE_internal_stringslite_HasPrefix :=
  fun_sound (F := AF_internal_stringslite_HasPrefix) Atab internal_stringslite_HasPrefix_hG Amixed (fn := Tryz.f74) (m := []) Tryz.func74 (by kernel_rfl) (by kernel_rfl) (by kernel_rfl) trivial (by kernel_rfl) internal_stringslite_HasPrefix_eq
def AS_internal_stringslite_CutPrefix : Shape := ⟨[(0, (.dat .str)), (1, (.dat .str))], []⟩
def AZ_internal_stringslite_CutPrefix : Shape := ⟨[(0, (.dat .str)), (1, (.dat .bool))], []⟩
def AE_internal_stringslite_CutPrefix : Ent := ⟨92, AS_internal_stringslite_CutPrefix, AZ_internal_stringslite_CutPrefix, internal_stringslite_CutPrefix⟩
def AF_internal_stringslite_CutPrefix : Fx := ⟨Acx, lookupG [AE_internal_stringslite_HasPrefix], fun k st => .fail, fun _ => none, 0⟩
theorem internal_stringslite_CutPrefix_eq (s : AS_internal_stringslite_CutPrefix.ty.den) : @Eq (Option AZ_internal_stringslite_CutPrefix.ty.den) (evFn AF_internal_stringslite_CutPrefix Tryz.f92 AS_internal_stringslite_CutPrefix AZ_internal_stringslite_CutPrefix s).val (internal_stringslite_CutPrefix s) := by kernel_rfl
theorem internal_stringslite_CutPrefix_hG : GSound Tryz.prog AF_internal_stringslite_CutPrefix.Γ := ents_sound ⟨internal_stringslite_HasPrefix_ok, trivial⟩
theorem internal_stringslite_CutPrefix_ok : EntOK Tryz.prog AE_internal_stringslite_CutPrefix :=
  fun_sound (F := AF_internal_stringslite_CutPrefix) Atab internal_stringslite_CutPrefix_hG Amixed (fn := Tryz.f92) (m := []) Tryz.func92 (by kernel_rfl) (by kernel_rfl) (by kernel_rfl) trivial (by kernel_rfl) internal_stringslite_CutPrefix_eq
def AS_strings_CutPrefix : Shape := ⟨[(0, (.dat .str)), (1, (.dat .str))], []⟩
def AZ_strings_CutPrefix : Shape := ⟨[(0, (.dat .str)), (1, (.dat .bool))], []⟩
def AE_strings_CutPrefix : Ent := ⟨75, AS_strings_CutPrefix, AZ_strings_CutPrefix, strings_CutPrefix⟩
def AF_strings_CutPrefix : Fx := ⟨Acx, lookupG [AE_internal_stringslite_CutPrefix], fun k st => .fail, fun _ => none, 0⟩
theorem strings_CutPrefix_eq (s : AS_strings_CutPrefix.ty.den) : @Eq (Option AZ_strings_CutPrefix.ty.den) (evFn AF_strings_CutPrefix Tryz.f75 AS_strings_CutPrefix AZ_strings_CutPrefix s).val (strings_CutPrefix s) := by kernel_rfl
theorem strings_CutPrefix_hG : GSound Tryz.prog AF_strings_CutPrefix.Γ := ents_sound ⟨internal_stringslite_CutPrefix_ok, trivial⟩
theorem strings_CutPrefix_ok : EntOK Tryz.prog AE_strings_CutPrefix :=
  fun_sound (F := AF_strings_CutPrefix) Atab strings_CutPrefix_hG Amixed (fn := Tryz.f75) (m := []) Tryz.func75 (by kernel_rfl) (by kernel_rfl) (by kernel_rfl) trivial (by kernel_rfl) strings_CutPrefix_eq
def AS_internal_stringslite_IndexByte : Shape := ⟨[(0, (.dat .str)), (1, (.dat (.int .u8)))], []⟩
def AZ_internal_stringslite_IndexByte : Shape := ⟨[(0, (.dat (.int .i64)))], []⟩
def AE_internal_stringslite_IndexByte : Ent := ⟨128, AS_internal_stringslite_IndexByte, AZ_internal_stringslite_IndexByte, internal_stringslite_IndexByte⟩
set_option maxHeartbeats 1000000 in
theorem internal_stringslite_IndexByte_calls (a : ByteArray) (c : Int) (w : World) : Calls Tryz.prog 128 #[.string a, .int .u8 c] w fun e w' => e = .returned (.int .i64 (Lib.indexByte a.data.toList c.toNat.toUInt8)) ∧ w' = w := by
  go_enter Tryz.func128, Tryz.ntmps128
  go_wp2
  rw [run_callFunc_extern Tryz.func136 (by kernel_rfl) (by kernel_rfl) (by kernel_rfl) (e := Extern.BytealgIndexByte.indexByte) (by kernel_rfl), Lib.run_indexByteString]
  simp only [Result.andThen]
  rw [Oper.upon_value]
  go_wp2
  go_ret
  exact ⟨rfl, rfl⟩
theorem internal_stringslite_IndexByte_ok : EntOK Tryz.prog AE_internal_stringslite_IndexByte := ext_sb (g := fun a c => Lib.indexByte a c.toNat.toUInt8) Tryz.func128 (by kernel_rfl) internal_stringslite_IndexByte_calls
def AS_strings_IndexByte : Shape := ⟨[(0, (.dat .str)), (1, (.dat (.int .u8)))], []⟩
def AZ_strings_IndexByte : Shape := ⟨[(0, (.dat (.int .i64)))], []⟩
def AE_strings_IndexByte : Ent := ⟨151, AS_strings_IndexByte, AZ_strings_IndexByte, strings_IndexByte⟩
def AF_strings_IndexByte : Fx := ⟨Acx, lookupG [AE_internal_stringslite_IndexByte], fun k st => .fail, fun _ => none, 0⟩
theorem strings_IndexByte_eq (s : AS_strings_IndexByte.ty.den) : @Eq (Option AZ_strings_IndexByte.ty.den) (evFn AF_strings_IndexByte Tryz.f151 AS_strings_IndexByte AZ_strings_IndexByte s).val (strings_IndexByte s) := by kernel_rfl
theorem strings_IndexByte_hG : GSound Tryz.prog AF_strings_IndexByte.Γ := ents_sound ⟨internal_stringslite_IndexByte_ok, trivial⟩
theorem strings_IndexByte_ok : EntOK Tryz.prog AE_strings_IndexByte :=
  fun_sound (F := AF_strings_IndexByte) Atab strings_IndexByte_hG Amixed (fn := Tryz.f151) (m := []) Tryz.func151 (by kernel_rfl) (by kernel_rfl) (by kernel_rfl) trivial (by kernel_rfl) strings_IndexByte_eq
def AS_unicode_utf8_ValidRune : Shape := ⟨[(0, (.dat (.int .i32)))], []⟩
def AZ_unicode_utf8_ValidRune : Shape := ⟨[(0, (.dat .bool))], []⟩
def AE_unicode_utf8_ValidRune : Ent := ⟨152, AS_unicode_utf8_ValidRune, AZ_unicode_utf8_ValidRune, unicode_utf8_ValidRune⟩
def AF_unicode_utf8_ValidRune : Fx := ⟨Acx, lookupG [], fun k st => .fail, fun _ => none, 0⟩
theorem unicode_utf8_ValidRune_eq (s : AS_unicode_utf8_ValidRune.ty.den) : @Eq (Option AZ_unicode_utf8_ValidRune.ty.den) (evFn AF_unicode_utf8_ValidRune Tryz.f152 AS_unicode_utf8_ValidRune AZ_unicode_utf8_ValidRune s).val (unicode_utf8_ValidRune s) := by kernel_rfl
theorem unicode_utf8_ValidRune_hG : GSound Tryz.prog AF_unicode_utf8_ValidRune.Γ := ents_sound trivial
theorem unicode_utf8_ValidRune_ok : EntOK Tryz.prog AE_unicode_utf8_ValidRune :=
  fun_sound (F := AF_unicode_utf8_ValidRune) Atab unicode_utf8_ValidRune_hG Amixed (fn := Tryz.f152) (m := []) Tryz.func152 (by kernel_rfl) (by kernel_rfl) (by kernel_rfl) trivial (by kernel_rfl) unicode_utf8_ValidRune_eq
def AL_strings_IndexRune_0 : Lp := ⟨⟨[(175, (.ptr 0 .unit 0 []))], [.iter]⟩, .ret, ⟨[(4, (.dat (.int .i64)))], []⟩, (.exit 9), ⟨[], []⟩⟩
def AS_strings_IndexRune : Shape := ⟨[(0, (.dat .str)), (1, (.dat (.int .i32)))], []⟩
def AZ_strings_IndexRune : Shape := ⟨[(0, (.dat (.int .i64)))], []⟩
def AE_strings_IndexRune : Ent := ⟨141, AS_strings_IndexRune, AZ_strings_IndexRune, strings_IndexRune⟩
def AF_strings_IndexRune : Fx := ⟨Acx, lookupG [AE_strings_IndexByte, AE_unicode_utf8_ValidRune], fun k st => bif Nat.beq k 9 then AL_strings_IndexRune_0.go (strings_IndexRune_l0) 0 st else .fail, fun _ => none, 0⟩
theorem strings_IndexRune_b0_eq (s : AL_strings_IndexRune_0.S.ty.den) : @Eq (Option (AL_strings_IndexRune_0.S.ty.den ⊕ AL_strings_IndexRune_0.Out)) (AL_strings_IndexRune_0.body AF_strings_IndexRune (loopAt (bodyOf Tryz.f141) 0) 9 s).val (strings_IndexRune_b0 s) := by kernel_rfl
theorem strings_IndexRune_eq (s : AS_strings_IndexRune.ty.den) : @Eq (Option AZ_strings_IndexRune.ty.den) (evFn AF_strings_IndexRune Tryz.f141 AS_strings_IndexRune AZ_strings_IndexRune s).val (strings_IndexRune s) := by kernel_rfl
theorem strings_IndexRune_hG : GSound Tryz.prog AF_strings_IndexRune.Γ := ents_sound ⟨strings_IndexByte_ok, unicode_utf8_ValidRune_ok, trivial⟩
theorem strings_IndexRune_la1 : LamOK Tryz.prog AF_strings_IndexRune Tryz.f141.ntmps 1 (loopAt (bodyOf Tryz.f141) 1) := lam_none (fun _ => rfl)
theorem strings_IndexRune_la2 : LamOK Tryz.prog AF_strings_IndexRune Tryz.f141.ntmps 3 (loopAt (bodyOf Tryz.f141) 2) := lam_none (fun _ => rfl)
theorem strings_IndexRune_la3 : LamOK Tryz.prog AF_strings_IndexRune Tryz.f141.ntmps 5 (loopAt (bodyOf Tryz.f141) 3) := lam_none (fun _ => rfl)
theorem strings_IndexRune_la4 : LamOK Tryz.prog AF_strings_IndexRune Tryz.f141.ntmps 7 (loopAt (bodyOf Tryz.f141) 4) := lam_none (fun _ => rfl)
theorem strings_IndexRune_la0 : LamOK Tryz.prog AF_strings_IndexRune Tryz.f141.ntmps 9 (loopAt (bodyOf Tryz.f141) 0) :=
  lam_sound Atab strings_IndexRune_hG Amixed (L := AL_strings_IndexRune_0) (f := strings_IndexRune_l0) (b := strings_IndexRune_b0) (m := []) (fun _ => rfl) (by kernel_rfl) (by kernel_rfl) trivial (by kernel_rfl) strings_IndexRune_b0_eq
theorem strings_IndexRune_ok : EntOK Tryz.prog AE_strings_IndexRune :=
  fun_sound (F := AF_strings_IndexRune) Atab strings_IndexRune_hG Amixed (fn := Tryz.f141) (m := [(9, loopAt (bodyOf Tryz.f141) 0), (1, loopAt (bodyOf Tryz.f141) 1), (3, loopAt (bodyOf Tryz.f141) 2), (5, loopAt (bodyOf Tryz.f141) 3), (7, loopAt (bodyOf Tryz.f141) 4)]) Tryz.func141 (by kernel_rfl) (by kernel_rfl) (by kernel_rfl) ⟨strings_IndexRune_la0, strings_IndexRune_la1, strings_IndexRune_la2, strings_IndexRune_la3, strings_IndexRune_la4, trivial⟩ (by kernel_rfl) strings_IndexRune_eq
def AS_strings_shouldUseASCIISet : Shape := ⟨[(0, (.dat (.int .i64)))], []⟩
def AZ_strings_shouldUseASCIISet : Shape := ⟨[(0, (.dat .bool))], []⟩
def AE_strings_shouldUseASCIISet : Ent := ⟨142, AS_strings_shouldUseASCIISet, AZ_strings_shouldUseASCIISet, strings_shouldUseASCIISet⟩
def AF_strings_shouldUseASCIISet : Fx := ⟨Acx, lookupG [], fun k st => .fail, fun _ => none, 0⟩
theorem strings_shouldUseASCIISet_eq (s : AS_strings_shouldUseASCIISet.ty.den) : @Eq (Option AZ_strings_shouldUseASCIISet.ty.den) (evFn AF_strings_shouldUseASCIISet Tryz.f142 AS_strings_shouldUseASCIISet AZ_strings_shouldUseASCIISet s).val (strings_shouldUseASCIISet s) := by kernel_rfl
theorem strings_shouldUseASCIISet_hG : GSound Tryz.prog AF_strings_shouldUseASCIISet.Γ := ents_sound trivial
theorem strings_shouldUseASCIISet_ok : EntOK Tryz.prog AE_strings_shouldUseASCIISet :=
  fun_sound (F := AF_strings_shouldUseASCIISet) Atab strings_shouldUseASCIISet_hG Amixed (fn := Tryz.f142) (m := []) Tryz.func142 (by kernel_rfl) (by kernel_rfl) (by kernel_rfl) trivial (by kernel_rfl) strings_shouldUseASCIISet_eq
def AL_strings_IndexAny_s_1 : Lp := ⟨⟨[(1, (.dat .str)), (45, (.ptr 0 .unit 0 []))], [.iter]⟩, .ret, ⟨[(4, (.dat (.int .i64)))], []⟩, (.exit 2), ⟨[], []⟩⟩
def AS_strings_IndexAny_s : Shape := ⟨[(0, (.dat .str)), (1, (.dat .str))], []⟩
def AZ_strings_IndexAny_s : Shape := ⟨[(0, (.dat (.int .i64)))], []⟩
def AE_strings_IndexAny_s : Ent := ⟨138, AS_strings_IndexAny_s, AZ_strings_IndexAny_s, strings_IndexAny_s⟩
def AF_strings_IndexAny_s : Fx := ⟨Acx, lookupG [AE_strings_IndexRune, AE_strings_shouldUseASCIISet], fun k st => bif Nat.beq k 2 then AL_strings_IndexAny_s_1.go (strings_IndexAny_s_l1) 0 st else .fail, fun _ => none, 0⟩
theorem strings_IndexAny_s_b1_eq (s : AL_strings_IndexAny_s_1.S.ty.den) : @Eq (Option (AL_strings_IndexAny_s_1.S.ty.den ⊕ AL_strings_IndexAny_s_1.Out)) (AL_strings_IndexAny_s_1.body AF_strings_IndexAny_s (loopAt (bodyOf Tryz.f138) 1) 2 s).val (strings_IndexAny_s_b1 s) := by kernel_rfl
theorem strings_IndexAny_s_eq (s : AS_strings_IndexAny_s.ty.den) : @Eq (Option AZ_strings_IndexAny_s.ty.den) (evFn AF_strings_IndexAny_s Tryz.f138 AS_strings_IndexAny_s AZ_strings_IndexAny_s s).val (strings_IndexAny_s s) := by kernel_rfl
theorem strings_IndexAny_s_hG : GSound Tryz.prog AF_strings_IndexAny_s.Γ := ents_sound ⟨strings_IndexRune_ok, strings_shouldUseASCIISet_ok, trivial⟩
theorem strings_IndexAny_s_la0 : LamOK Tryz.prog AF_strings_IndexAny_s Tryz.f138.ntmps 0 (loopAt (bodyOf Tryz.f138) 0) := lam_none (fun _ => rfl)
theorem strings_IndexAny_s_la1 : LamOK Tryz.prog AF_strings_IndexAny_s Tryz.f138.ntmps 2 (loopAt (bodyOf Tryz.f138) 1) :=
  lam_sound Atab strings_IndexAny_s_hG Amixed (L := AL_strings_IndexAny_s_1) (f := strings_IndexAny_s_l1) (b := strings_IndexAny_s_b1) (m := []) (fun _ => rfl) (by kernel_rfl) (by kernel_rfl) trivial (by kernel_rfl) strings_IndexAny_s_b1_eq
theorem strings_IndexAny_s_ok : EntOK Tryz.prog AE_strings_IndexAny_s :=
  fun_sound (F := AF_strings_IndexAny_s) Atab strings_IndexAny_s_hG Amixed (fn := Tryz.f138) (m := [(0, loopAt (bodyOf Tryz.f138) 0), (2, loopAt (bodyOf Tryz.f138) 1)]) Tryz.func138 (by kernel_rfl) (by kernel_rfl) (by kernel_rfl) ⟨strings_IndexAny_s_la0, strings_IndexAny_s_la1, trivial⟩ (by kernel_rfl) strings_IndexAny_s_eq
def AS_strings_IndexAny : Shape := ⟨[(0, (.dat .str)), (1, (.dat .str))], []⟩
def AZ_strings_IndexAny : Shape := ⟨[(0, (.dat (.int .i64)))], []⟩
def AE_strings_IndexAny : Ent := ⟨138, AS_strings_IndexAny, AZ_strings_IndexAny, strings_IndexAny⟩
theorem strings_IndexAny_ok : EntOK Tryz.prog AE_strings_IndexAny := ent_or (f := 138) (S := AS_strings_IndexAny) (Z := AZ_strings_IndexAny) (g1 := strings_IndexAny_s) (g2 := anyLong) strings_IndexAny_s_ok (indexAny_ent Tryz.lays153 (by kernel_rfl) Tryz.func138 (by kernel_rfl))
def AS_path_rest_upTo : Shape := ⟨[(0, (.ptr 0 tpath_place 0 [0]))], [.box 162 tpath_place (.agg [(.agg [(.dat .str)]), (.agg [(.dat .str), (.dat (.int .i64)), (.dat (.int .i64)), (.dat .str)])])]⟩
def AZ_path_rest_upTo : Shape := ⟨[(0, (.dat .str)), (1, (.dat (.int .u8)))], [.box 162 tpath_place (.agg [(.agg [(.dat .str)]), (.agg [(.dat .str), (.dat (.int .i64)), (.dat (.int .i64)), (.dat .str)])])]⟩
def AE_path_rest_upTo : Ent := ⟨133, AS_path_rest_upTo, AZ_path_rest_upTo, path_rest_upTo⟩
def AF_path_rest_upTo : Fx := ⟨Acx, lookupG [AE_strings_IndexAny], fun k st => .fail, fun _ => none, 1⟩
theorem path_rest_upTo_eq (s : AS_path_rest_upTo.ty.den) : @Eq (Option AZ_path_rest_upTo.ty.den) (evFn AF_path_rest_upTo Tryz.f133 AS_path_rest_upTo AZ_path_rest_upTo s).val (path_rest_upTo s) := by kernel_rfl
theorem path_rest_upTo_hG : GSound Tryz.prog AF_path_rest_upTo.Γ := ents_sound ⟨strings_IndexAny_ok, trivial⟩
theorem path_rest_upTo_ok : EntOK Tryz.prog AE_path_rest_upTo :=
  fun_sound (F := AF_path_rest_upTo) Atab path_rest_upTo_hG Amixed (fn := Tryz.f133) (m := []) Tryz.func133 (by kernel_rfl) (by kernel_rfl) (by kernel_rfl) trivial (by kernel_rfl) path_rest_upTo_eq
def AS_path_place_read : Shape := ⟨[(0, (.ptr 0 tpath_place 0 []))], [.box 162 tpath_place (.agg [(.agg [(.dat .str)]), (.agg [(.dat .str), (.dat (.int .i64)), (.dat (.int .i64)), (.dat .str)])])]⟩
def AZ_path_place_read : Shape := ⟨[], [.box 162 tpath_place (.agg [(.agg [(.dat .str)]), (.agg [(.dat .str), (.dat (.int .i64)), (.dat (.int .i64)), (.dat .str)])])]⟩
def AE_path_place_read : Ent := ⟨122, AS_path_place_read, AZ_path_place_read, path_place_read⟩
def AF_path_place_read : Fx := ⟨Acx, lookupG [AE_strings_CutPrefix, AE_path_rest_upTo], fun k st => .fail, fun _ => none, 1⟩
theorem path_place_read_eq (s : AS_path_place_read.ty.den) : @Eq (Option AZ_path_place_read.ty.den) (evFn AF_path_place_read Tryz.f122 AS_path_place_read AZ_path_place_read s).val (path_place_read s) := by kernel_rfl
theorem path_place_read_hG : GSound Tryz.prog AF_path_place_read.Γ := ents_sound ⟨strings_CutPrefix_ok, path_rest_upTo_ok, trivial⟩
theorem path_place_read_ok : EntOK Tryz.prog AE_path_place_read :=
  fun_sound (F := AF_path_place_read) Atab path_place_read_hG Amixed (fn := Tryz.f122) (m := []) Tryz.func122 (by kernel_rfl) (by kernel_rfl) (by kernel_rfl) trivial (by kernel_rfl) path_place_read_eq
def AS_internal_stringslite_Index : Shape := ⟨[(0, (.dat .str)), (1, (.dat .str))], []⟩
def AZ_internal_stringslite_Index : Shape := ⟨[(0, (.dat (.int .i64)))], []⟩
def AE_internal_stringslite_Index : Ent := ⟨118, AS_internal_stringslite_Index, AZ_internal_stringslite_Index, internal_stringslite_Index⟩
def AF_internal_stringslite_Index : Fx := ⟨Acx, lookupG [AE_internal_stringslite_IndexByte], fun k st => .fail, fun _ => none, 0⟩
theorem internal_stringslite_Index_eq (s : AS_internal_stringslite_Index.ty.den) : @Eq (Option AZ_internal_stringslite_Index.ty.den) (evFn AF_internal_stringslite_Index Tryz.f118 AS_internal_stringslite_Index AZ_internal_stringslite_Index s).val (internal_stringslite_Index s) := by kernel_rfl
theorem internal_stringslite_Index_hG : GSound Tryz.prog AF_internal_stringslite_Index.Γ := ents_sound ⟨internal_stringslite_IndexByte_ok, trivial⟩
theorem internal_stringslite_Index_la0 : LamOK Tryz.prog AF_internal_stringslite_Index Tryz.f118.ntmps 1 (loopAt (bodyOf Tryz.f118) 0) := lam_none (fun _ => rfl)
theorem internal_stringslite_Index_ok : EntOK Tryz.prog AE_internal_stringslite_Index :=
  fun_sound (F := AF_internal_stringslite_Index) Atab internal_stringslite_Index_hG Amixed (fn := Tryz.f118) (m := [(1, loopAt (bodyOf Tryz.f118) 0)]) Tryz.func118 (by kernel_rfl) (by kernel_rfl) (by kernel_rfl) ⟨internal_stringslite_Index_la0, trivial⟩ (by kernel_rfl) internal_stringslite_Index_eq
def AS_internal_stringslite_Cut : Shape := ⟨[(0, (.dat .str)), (1, (.dat .str))], []⟩
def AZ_internal_stringslite_Cut : Shape := ⟨[(0, (.dat .str)), (1, (.dat .str)), (2, (.dat .bool))], []⟩
def AE_internal_stringslite_Cut : Ent := ⟨105, AS_internal_stringslite_Cut, AZ_internal_stringslite_Cut, internal_stringslite_Cut⟩
def AF_internal_stringslite_Cut : Fx := ⟨Acx, lookupG [AE_internal_stringslite_Index], fun k st => .fail, fun _ => none, 0⟩
theorem internal_stringslite_Cut_eq (s : AS_internal_stringslite_Cut.ty.den) : @Eq (Option AZ_internal_stringslite_Cut.ty.den) (evFn AF_internal_stringslite_Cut Tryz.f105 AS_internal_stringslite_Cut AZ_internal_stringslite_Cut s).val (internal_stringslite_Cut s) := by kernel_rfl
theorem internal_stringslite_Cut_hG : GSound Tryz.prog AF_internal_stringslite_Cut.Γ := ents_sound ⟨internal_stringslite_Index_ok, trivial⟩
theorem internal_stringslite_Cut_ok : EntOK Tryz.prog AE_internal_stringslite_Cut :=
  fun_sound (F := AF_internal_stringslite_Cut) Atab internal_stringslite_Cut_hG Amixed (fn := Tryz.f105) (m := []) Tryz.func105 (by kernel_rfl) (by kernel_rfl) (by kernel_rfl) trivial (by kernel_rfl) internal_stringslite_Cut_eq
def AS_strings_Cut : Shape := ⟨[(0, (.dat .str)), (1, (.dat .str))], []⟩
def AZ_strings_Cut : Shape := ⟨[(0, (.dat .str)), (1, (.dat .str)), (2, (.dat .bool))], []⟩
def AE_strings_Cut : Ent := ⟨81, AS_strings_Cut, AZ_strings_Cut, strings_Cut⟩
def AF_strings_Cut : Fx := ⟨Acx, lookupG [AE_internal_stringslite_Cut], fun k st => .fail, fun _ => none, 0⟩
theorem strings_Cut_eq (s : AS_strings_Cut.ty.den) : @Eq (Option AZ_strings_Cut.ty.den) (evFn AF_strings_Cut Tryz.f81 AS_strings_Cut AZ_strings_Cut s).val (strings_Cut s) := by kernel_rfl
theorem strings_Cut_hG : GSound Tryz.prog AF_strings_Cut.Γ := ents_sound ⟨internal_stringslite_Cut_ok, trivial⟩
theorem strings_Cut_ok : EntOK Tryz.prog AE_strings_Cut :=
  fun_sound (F := AF_strings_Cut) Atab strings_Cut_hG Amixed (fn := Tryz.f81) (m := []) Tryz.func81 (by kernel_rfl) (by kernel_rfl) (by kernel_rfl) trivial (by kernel_rfl) strings_Cut_eq
def AS_path_isNameC1 : Shape := ⟨[(0, (.dat (.int .i32)))], []⟩
def AZ_path_isNameC1 : Shape := ⟨[(0, (.dat .bool))], []⟩
def AE_path_isNameC1 : Ent := ⟨107, AS_path_isNameC1, AZ_path_isNameC1, path_isNameC1⟩
def AF_path_isNameC1 : Fx := ⟨Acx, lookupG [], fun k st => .fail, fun _ => none, 0⟩
theorem path_isNameC1_eq (s : AS_path_isNameC1.ty.den) : @Eq (Option AZ_path_isNameC1.ty.den) (evFn AF_path_isNameC1 Tryz.f107 AS_path_isNameC1 AZ_path_isNameC1 s).val (path_isNameC1 s) := by kernel_rfl
theorem path_isNameC1_hG : GSound Tryz.prog AF_path_isNameC1.Γ := ents_sound trivial
theorem path_isNameC1_ok : EntOK Tryz.prog AE_path_isNameC1 :=
  fun_sound (F := AF_path_isNameC1) Atab path_isNameC1_hG Amixed (fn := Tryz.f107) (m := []) Tryz.func107 (by kernel_rfl) (by kernel_rfl) (by kernel_rfl) trivial (by kernel_rfl) path_isNameC1_eq
def AL_strings_indexFunc_0 : Lp := ⟨⟨[(1, (.fn 107 [] [])), (2, (.dat .bool)), (10, (.ptr 0 .unit 0 []))], [.iter]⟩, .ret, ⟨[(6, (.dat (.int .i64)))], []⟩, (.exit 0), ⟨[], []⟩⟩
def AS_strings_indexFunc : Shape := ⟨[(0, (.dat .str)), (1, (.fn 107 [] [])), (2, (.dat .bool))], []⟩
def AZ_strings_indexFunc : Shape := ⟨[(0, (.dat (.int .i64)))], []⟩
def AE_strings_indexFunc : Ent := ⟨119, AS_strings_indexFunc, AZ_strings_indexFunc, strings_indexFunc⟩
def AF_strings_indexFunc : Fx := ⟨Acx, lookupG [AE_path_isNameC1], fun k st => bif Nat.beq k 0 then AL_strings_indexFunc_0.go (strings_indexFunc_l0) 0 st else .fail, fun _ => none, 0⟩
theorem strings_indexFunc_b0_eq (s : AL_strings_indexFunc_0.S.ty.den) : @Eq (Option (AL_strings_indexFunc_0.S.ty.den ⊕ AL_strings_indexFunc_0.Out)) (AL_strings_indexFunc_0.body AF_strings_indexFunc (loopAt (bodyOf Tryz.f119) 0) 0 s).val (strings_indexFunc_b0 s) := by kernel_rfl
theorem strings_indexFunc_eq (s : AS_strings_indexFunc.ty.den) : @Eq (Option AZ_strings_indexFunc.ty.den) (evFn AF_strings_indexFunc Tryz.f119 AS_strings_indexFunc AZ_strings_indexFunc s).val (strings_indexFunc s) := by kernel_rfl
theorem strings_indexFunc_hG : GSound Tryz.prog AF_strings_indexFunc.Γ := ents_sound ⟨path_isNameC1_ok, trivial⟩
theorem strings_indexFunc_la0 : LamOK Tryz.prog AF_strings_indexFunc Tryz.f119.ntmps 0 (loopAt (bodyOf Tryz.f119) 0) :=
  lam_sound Atab strings_indexFunc_hG Amixed (L := AL_strings_indexFunc_0) (f := strings_indexFunc_l0) (b := strings_indexFunc_b0) (m := []) (fun _ => rfl) (by kernel_rfl) (by kernel_rfl) trivial (by kernel_rfl) strings_indexFunc_b0_eq
theorem strings_indexFunc_ok : EntOK Tryz.prog AE_strings_indexFunc :=
  fun_sound (F := AF_strings_indexFunc) Atab strings_indexFunc_hG Amixed (fn := Tryz.f119) (m := [(0, loopAt (bodyOf Tryz.f119) 0)]) Tryz.func119 (by kernel_rfl) (by kernel_rfl) (by kernel_rfl) ⟨strings_indexFunc_la0, trivial⟩ (by kernel_rfl) strings_indexFunc_eq
def AS_strings_IndexFunc : Shape := ⟨[(0, (.dat .str)), (1, (.fn 107 [] []))], []⟩
def AZ_strings_IndexFunc : Shape := ⟨[(0, (.dat (.int .i64)))], []⟩
def AE_strings_IndexFunc : Ent := ⟨106, AS_strings_IndexFunc, AZ_strings_IndexFunc, strings_IndexFunc⟩
def AF_strings_IndexFunc : Fx := ⟨Acx, lookupG [AE_path_isNameC1, AE_strings_indexFunc], fun k st => .fail, fun _ => none, 0⟩
theorem strings_IndexFunc_eq (s : AS_strings_IndexFunc.ty.den) : @Eq (Option AZ_strings_IndexFunc.ty.den) (evFn AF_strings_IndexFunc Tryz.f106 AS_strings_IndexFunc AZ_strings_IndexFunc s).val (strings_IndexFunc s) := by kernel_rfl
theorem strings_IndexFunc_hG : GSound Tryz.prog AF_strings_IndexFunc.Γ := ents_sound ⟨path_isNameC1_ok, strings_indexFunc_ok, trivial⟩
theorem strings_IndexFunc_ok : EntOK Tryz.prog AE_strings_IndexFunc :=
  fun_sound (F := AF_strings_IndexFunc) Atab strings_IndexFunc_hG Amixed (fn := Tryz.f106) (m := []) Tryz.func106 (by kernel_rfl) (by kernel_rfl) (by kernel_rfl) trivial (by kernel_rfl) strings_IndexFunc_eq
def AS_path_isName : Shape := ⟨[(0, (.dat .str))], []⟩
def AZ_path_isName : Shape := ⟨[(0, (.dat .bool))], []⟩
def AE_path_isName : Ent := ⟨82, AS_path_isName, AZ_path_isName, path_isName⟩
def AF_path_isName : Fx := ⟨Acx, lookupG [AE_strings_IndexFunc], fun k st => .fail, fun _ => none, 0⟩
theorem path_isName_eq (s : AS_path_isName.ty.den) : @Eq (Option AZ_path_isName.ty.den) (evFn AF_path_isName Tryz.f82 AS_path_isName AZ_path_isName s).val (path_isName s) := by kernel_rfl
theorem path_isName_hG : GSound Tryz.prog AF_path_isName.Γ := ents_sound ⟨strings_IndexFunc_ok, trivial⟩
theorem path_isName_ok : EntOK Tryz.prog AE_path_isName :=
  fun_sound (F := AF_path_isName) Atab path_isName_hG Amixed (fn := Tryz.f82) (m := []) Tryz.func82 (by kernel_rfl) (by kernel_rfl) (by kernel_rfl) trivial (by kernel_rfl) path_isName_eq
def AL_path_Valid_0 : Lp := ⟨⟨[(0, (.dat .str))], []⟩, .ret, ⟨[(2, (.dat .bool))], []⟩, (.exit 0), ⟨[], []⟩⟩
def AS_path_Valid : Shape := ⟨[(0, (.dat .str))], []⟩
def AZ_path_Valid : Shape := ⟨[(0, (.dat .bool))], []⟩
def AE_path_Valid : Ent := ⟨60, AS_path_Valid, AZ_path_Valid, path_Valid⟩
def AF_path_Valid : Fx := ⟨Acx, lookupG [AE_strings_Cut, AE_path_isName], fun k st => bif Nat.beq k 0 then AL_path_Valid_0.go (path_Valid_l0) 0 st else .fail, fun _ => none, 0⟩
theorem path_Valid_b0_eq (s : AL_path_Valid_0.S.ty.den) : @Eq (Option (AL_path_Valid_0.S.ty.den ⊕ AL_path_Valid_0.Out)) (AL_path_Valid_0.body AF_path_Valid (loopAt (bodyOf Tryz.f60) 0) 0 s).val (path_Valid_b0 s) := by kernel_rfl
theorem path_Valid_eq (s : AS_path_Valid.ty.den) : @Eq (Option AZ_path_Valid.ty.den) (evFn AF_path_Valid Tryz.f60 AS_path_Valid AZ_path_Valid s).val (path_Valid s) := by kernel_rfl
theorem path_Valid_hG : GSound Tryz.prog AF_path_Valid.Γ := ents_sound ⟨strings_Cut_ok, path_isName_ok, trivial⟩
theorem path_Valid_la0 : LamOK Tryz.prog AF_path_Valid Tryz.f60.ntmps 0 (loopAt (bodyOf Tryz.f60) 0) :=
  lam_sound Atab path_Valid_hG Amixed (L := AL_path_Valid_0) (f := path_Valid_l0) (b := path_Valid_b0) (m := []) (fun _ => rfl) (by kernel_rfl) (by kernel_rfl) trivial (by kernel_rfl) path_Valid_b0_eq
theorem path_Valid_ok : EntOK Tryz.prog AE_path_Valid :=
  fun_sound (F := AF_path_Valid) Atab path_Valid_hG Amixed (fn := Tryz.f60) (m := [(0, loopAt (bodyOf Tryz.f60) 0)]) Tryz.func60 (by kernel_rfl) (by kernel_rfl) (by kernel_rfl) ⟨path_Valid_la0, trivial⟩ (by kernel_rfl) path_Valid_eq
def AL_strings_trimRightByte_0 : Lp := ⟨⟨[(0, (.dat .str)), (1, (.dat (.int .u8)))], []⟩, (.exit 0), ⟨[(0, (.dat .str))], []⟩, (.exit 80000000), ⟨[], []⟩⟩
def AS_strings_trimRightByte : Shape := ⟨[(0, (.dat .str)), (1, (.dat (.int .u8)))], []⟩
def AZ_strings_trimRightByte : Shape := ⟨[(0, (.dat .str))], []⟩
def AE_strings_trimRightByte : Ent := ⟨146, AS_strings_trimRightByte, AZ_strings_trimRightByte, strings_trimRightByte⟩
def AF_strings_trimRightByte : Fx := ⟨Acx, lookupG [], fun k st => bif Nat.beq k 0 then AL_strings_trimRightByte_0.go (strings_trimRightByte_l0) 0 st else .fail, fun _ => none, 0⟩
theorem strings_trimRightByte_b0_eq (s : AL_strings_trimRightByte_0.S.ty.den) : @Eq (Option (AL_strings_trimRightByte_0.S.ty.den ⊕ AL_strings_trimRightByte_0.Out)) (AL_strings_trimRightByte_0.body AF_strings_trimRightByte (loopAt (bodyOf Tryz.f146) 0) 0 s).val (strings_trimRightByte_b0 s) := by kernel_rfl
theorem strings_trimRightByte_eq (s : AS_strings_trimRightByte.ty.den) : @Eq (Option AZ_strings_trimRightByte.ty.den) (evFn AF_strings_trimRightByte Tryz.f146 AS_strings_trimRightByte AZ_strings_trimRightByte s).val (strings_trimRightByte s) := by kernel_rfl
theorem strings_trimRightByte_hG : GSound Tryz.prog AF_strings_trimRightByte.Γ := ents_sound trivial
theorem strings_trimRightByte_la0 : LamOK Tryz.prog AF_strings_trimRightByte Tryz.f146.ntmps 0 (loopAt (bodyOf Tryz.f146) 0) :=
  lam_sound Atab strings_trimRightByte_hG Amixed (L := AL_strings_trimRightByte_0) (f := strings_trimRightByte_l0) (b := strings_trimRightByte_b0) (m := []) (fun _ => rfl) (by kernel_rfl) (by kernel_rfl) trivial (by kernel_rfl) strings_trimRightByte_b0_eq
theorem strings_trimRightByte_ok : EntOK Tryz.prog AE_strings_trimRightByte :=
  fun_sound (F := AF_strings_trimRightByte) Atab strings_trimRightByte_hG Amixed (fn := Tryz.f146) (m := [(0, loopAt (bodyOf Tryz.f146) 0)]) Tryz.func146 (by kernel_rfl) (by kernel_rfl) (by kernel_rfl) ⟨strings_trimRightByte_la0, trivial⟩ (by kernel_rfl) strings_trimRightByte_eq
def AL_strings_trimLeftByte_0 : Lp := ⟨⟨[(0, (.dat .str)), (1, (.dat (.int .u8)))], []⟩, (.exit 0), ⟨[(0, (.dat .str))], []⟩, (.exit 80000000), ⟨[], []⟩⟩
def AS_strings_trimLeftByte : Shape := ⟨[(0, (.dat .str)), (1, (.dat (.int .u8)))], []⟩
def AZ_strings_trimLeftByte : Shape := ⟨[(0, (.dat .str))], []⟩
def AE_strings_trimLeftByte : Ent := ⟨145, AS_strings_trimLeftByte, AZ_strings_trimLeftByte, strings_trimLeftByte⟩
def AF_strings_trimLeftByte : Fx := ⟨Acx, lookupG [], fun k st => bif Nat.beq k 0 then AL_strings_trimLeftByte_0.go (strings_trimLeftByte_l0) 0 st else .fail, fun _ => none, 0⟩
theorem strings_trimLeftByte_b0_eq (s : AL_strings_trimLeftByte_0.S.ty.den) : @Eq (Option (AL_strings_trimLeftByte_0.S.ty.den ⊕ AL_strings_trimLeftByte_0.Out)) (AL_strings_trimLeftByte_0.body AF_strings_trimLeftByte (loopAt (bodyOf Tryz.f145) 0) 0 s).val (strings_trimLeftByte_b0 s) := by kernel_rfl
theorem strings_trimLeftByte_eq (s : AS_strings_trimLeftByte.ty.den) : @Eq (Option AZ_strings_trimLeftByte.ty.den) (evFn AF_strings_trimLeftByte Tryz.f145 AS_strings_trimLeftByte AZ_strings_trimLeftByte s).val (strings_trimLeftByte s) := by kernel_rfl
theorem strings_trimLeftByte_hG : GSound Tryz.prog AF_strings_trimLeftByte.Γ := ents_sound trivial
theorem strings_trimLeftByte_la0 : LamOK Tryz.prog AF_strings_trimLeftByte Tryz.f145.ntmps 0 (loopAt (bodyOf Tryz.f145) 0) :=
  lam_sound Atab strings_trimLeftByte_hG Amixed (L := AL_strings_trimLeftByte_0) (f := strings_trimLeftByte_l0) (b := strings_trimLeftByte_b0) (m := []) (fun _ => rfl) (by kernel_rfl) (by kernel_rfl) trivial (by kernel_rfl) strings_trimLeftByte_b0_eq
theorem strings_trimLeftByte_ok : EntOK Tryz.prog AE_strings_trimLeftByte :=
  fun_sound (F := AF_strings_trimLeftByte) Atab strings_trimLeftByte_hG Amixed (fn := Tryz.f145) (m := [(0, loopAt (bodyOf Tryz.f145) 0)]) Tryz.func145 (by kernel_rfl) (by kernel_rfl) (by kernel_rfl) ⟨strings_trimLeftByte_la0, trivial⟩ (by kernel_rfl) strings_trimLeftByte_eq
def AS_strings_Trim : Shape := ⟨[(0, (.dat .str)), (1, (.dat .str))], []⟩
def AZ_strings_Trim : Shape := ⟨[(0, (.dat .str))], []⟩
def AE_strings_Trim : Ent := ⟨139, AS_strings_Trim, AZ_strings_Trim, strings_Trim⟩
def AF_strings_Trim : Fx := ⟨Acx, lookupG [AE_strings_trimRightByte, AE_strings_trimLeftByte], fun k st => .fail, fun _ => none, 0⟩
theorem strings_Trim_eq (s : AS_strings_Trim.ty.den) : @Eq (Option AZ_strings_Trim.ty.den) (evFn AF_strings_Trim Tryz.f139 AS_strings_Trim AZ_strings_Trim s).val (strings_Trim s) := by kernel_rfl
theorem strings_Trim_hG : GSound Tryz.prog AF_strings_Trim.Γ := ents_sound ⟨strings_trimRightByte_ok, strings_trimLeftByte_ok, trivial⟩
theorem strings_Trim_ok : EntOK Tryz.prog AE_strings_Trim :=
  fun_sound (F := AF_strings_Trim) Atab strings_Trim_hG Amixed (fn := Tryz.f139) (m := []) Tryz.func139 (by kernel_rfl) (by kernel_rfl) (by kernel_rfl) trivial (by kernel_rfl) strings_Trim_eq
def AS_path_isBody : Shape := ⟨[(0, (.dat .str))], []⟩
def AZ_path_isBody : Shape := ⟨[(0, (.dat .bool))], []⟩
def AE_path_isBody : Ent := ⟨134, AS_path_isBody, AZ_path_isBody, path_isBody⟩
def AF_path_isBody : Fx := ⟨Acx, lookupG [AE_strings_Trim], fun k st => .fail, fun _ => none, 0⟩
theorem path_isBody_eq (s : AS_path_isBody.ty.den) : @Eq (Option AZ_path_isBody.ty.den) (evFn AF_path_isBody Tryz.f134 AS_path_isBody AZ_path_isBody s).val (path_isBody s) := by kernel_rfl
theorem path_isBody_hG : GSound Tryz.prog AF_path_isBody.Γ := ents_sound ⟨strings_Trim_ok, trivial⟩
theorem path_isBody_ok : EntOK Tryz.prog AE_path_isBody :=
  fun_sound (F := AF_path_isBody) Atab path_isBody_hG Amixed (fn := Tryz.f134) (m := []) Tryz.func134 (by kernel_rfl) (by kernel_rfl) (by kernel_rfl) trivial (by kernel_rfl) path_isBody_eq
def AL_path_Key_c100010 : Lp := ⟨⟨[(1, (.ptr 0 tapi_Place 0 [])), (86, (.dat .bool))], [.box 102 tapi_Place (.dat tapi_Place)]⟩, .nrm, ⟨[], []⟩, .ret, ⟨[(2, (.dat .str)), (3, (.dat (.int .i64)))], []⟩⟩
def AL_path_Key_c100008 : Lp := ⟨⟨[(1, (.ptr 0 tapi_Place 0 [])), (4, (.ptr 1 tapi_Place 0 [])), (66, (.dat .bool))], [.box 102 tapi_Place (.dat tapi_Place), .box 102 tapi_Place (.agg [(.dat .str), (.dat (.int .i64)), (.dat (.int .i64)), (.dat .str)])]⟩, .nrm, ⟨[], []⟩, .ret, ⟨[(2, (.dat .str)), (3, (.dat (.int .i64)))], []⟩⟩
def AL_path_Key_c100006 : Lp := ⟨⟨[(1, (.ptr 0 tapi_Place 0 [])), (4, (.ptr 1 tapi_Place 0 [])), (35, (.dat .bool))], [.box 102 tapi_Place (.dat tapi_Place), .box 102 tapi_Place (.agg [(.dat .str), (.dat (.int .i64)), (.dat (.int .i64)), (.dat .str)])]⟩, .nrm, ⟨[], []⟩, .ret, ⟨[(2, (.dat .str)), (3, (.dat (.int .i64)))], []⟩⟩
def AL_path_Key_c100004 : Lp := ⟨⟨[(1, (.ptr 0 tapi_Place 0 [])), (4, (.ptr 1 tapi_Place 0 [])), (23, (.dat .bool))], [.box 102 tapi_Place (.dat tapi_Place), .box 102 tapi_Place (.agg [(.dat .str), (.dat (.int .i64)), (.dat (.int .i64)), (.dat .str)])]⟩, .nrm, ⟨[], []⟩, .ret, ⟨[(2, (.dat .str)), (3, (.dat (.int .i64)))], []⟩⟩
def AL_path_Key_c300003 : Lp := ⟨⟨[(1, (.ptr 0 tapi_Place 0 [])), (4, (.ptr 1 tapi_Place 0 [])), (22, (.dat .bool))], [.box 102 tapi_Place (.dat tapi_Place), .box 102 tapi_Place (.agg [(.dat .str), (.dat (.int .i64)), (.dat (.int .i64)), (.dat .str)])]⟩, .nrm, ⟨[], []⟩, .ret, ⟨[(2, (.dat .str)), (3, (.dat (.int .i64)))], []⟩⟩
def AS_path_Key : Shape := ⟨[(0, (.dat tapi_Place))], []⟩
def AZ_path_Key : Shape := ⟨[(0, (.dat .str)), (1, (.dat (.int .i64)))], []⟩
def AE_path_Key : Ent := ⟨123, AS_path_Key, AZ_path_Key, path_Key⟩
def AF_path_Key : Fx := ⟨Acx, lookupG [AE_path_isName, AE_path_Valid, AE_path_isBody], fun k st => .fail, fun _ => none, 0⟩
def AC_path_Key : Cuts := [(100010, AL_path_Key_c100010.go (path_Key_c100010) 0), (100008, AL_path_Key_c100008.go (path_Key_c100008) 0), (100006, AL_path_Key_c100006.go (path_Key_c100006) 0), (100004, AL_path_Key_c100004.go (path_Key_c100004) 0), (300003, AL_path_Key_c300003.go (path_Key_c300003) 0)]
theorem path_Key_c100010_eq (s : AL_path_Key_c100010.S.ty.den) : @Eq (Option AL_path_Key_c100010.Out) ((evK AF_path_Key AC_path_Key (tailOf (bodyOf Tryz.f123) 100010) 0 (AL_path_Key_c100010.S.enc s)).bind fun (e, st) => AL_path_Key_c100010.out AF_path_Key.m e st).val (path_Key_c100010 s) := by kernel_rfl
theorem path_Key_c100008_eq (s : AL_path_Key_c100008.S.ty.den) : @Eq (Option AL_path_Key_c100008.Out) ((evK AF_path_Key AC_path_Key (tailOf (bodyOf Tryz.f123) 100008) 0 (AL_path_Key_c100008.S.enc s)).bind fun (e, st) => AL_path_Key_c100008.out AF_path_Key.m e st).val (path_Key_c100008 s) := by kernel_rfl
theorem path_Key_c100006_eq (s : AL_path_Key_c100006.S.ty.den) : @Eq (Option AL_path_Key_c100006.Out) ((evK AF_path_Key AC_path_Key (tailOf (bodyOf Tryz.f123) 100006) 0 (AL_path_Key_c100006.S.enc s)).bind fun (e, st) => AL_path_Key_c100006.out AF_path_Key.m e st).val (path_Key_c100006 s) := by kernel_rfl
theorem path_Key_c100004_eq (s : AL_path_Key_c100004.S.ty.den) : @Eq (Option AL_path_Key_c100004.Out) ((evK AF_path_Key AC_path_Key (tailOf (bodyOf Tryz.f123) 100004) 0 (AL_path_Key_c100004.S.enc s)).bind fun (e, st) => AL_path_Key_c100004.out AF_path_Key.m e st).val (path_Key_c100004 s) := by kernel_rfl
theorem path_Key_c300003_eq (s : AL_path_Key_c300003.S.ty.den) : @Eq (Option AL_path_Key_c300003.Out) ((evK AF_path_Key AC_path_Key (tailOf (bodyOf Tryz.f123) 300003) 0 (AL_path_Key_c300003.S.enc s)).bind fun (e, st) => AL_path_Key_c300003.out AF_path_Key.m e st).val (path_Key_c300003 s) := by kernel_rfl
theorem path_Key_eq (s : AE_path_Key.S.ty.den) : (evFnK AF_path_Key AC_path_Key Tryz.f123 AE_path_Key.S AE_path_Key.Z s).val = AE_path_Key.g s := by kernel_rfl
theorem path_Key_hG : GSound Tryz.prog AF_path_Key.Γ := ents_sound ⟨path_isName_ok, path_Valid_ok, path_isBody_ok, trivial⟩
theorem path_Key_c100010_ok : CutOK Tryz.prog AF_path_Key Tryz.f123.ntmps (AL_path_Key_c100010.go (path_Key_c100010) 0) (tailOf (bodyOf Tryz.f123) 100010) :=
  cut_sound Atab path_Key_hG Amixed (L := AL_path_Key_c100010) (k := 0) (f := path_Key_c100010) (C := AC_path_Key) (l := []) (m := []) (by kernel_rfl) trivial (by kernel_rfl) trivial (by kernel_rfl) path_Key_c100010_eq
theorem path_Key_c100008_ok : CutOK Tryz.prog AF_path_Key Tryz.f123.ntmps (AL_path_Key_c100008.go (path_Key_c100008) 0) (tailOf (bodyOf Tryz.f123) 100008) :=
  cut_sound Atab path_Key_hG Amixed (L := AL_path_Key_c100008) (k := 0) (f := path_Key_c100008) (C := AC_path_Key) (l := []) (m := [(AL_path_Key_c100010.go (path_Key_c100010) 0, tailOf (bodyOf Tryz.f123) 100010)]) (by kernel_rfl) trivial (by kernel_rfl) ⟨path_Key_c100010_ok, trivial⟩ (by kernel_rfl) path_Key_c100008_eq
theorem path_Key_c100006_ok : CutOK Tryz.prog AF_path_Key Tryz.f123.ntmps (AL_path_Key_c100006.go (path_Key_c100006) 0) (tailOf (bodyOf Tryz.f123) 100006) :=
  cut_sound Atab path_Key_hG Amixed (L := AL_path_Key_c100006) (k := 0) (f := path_Key_c100006) (C := AC_path_Key) (l := []) (m := [(AL_path_Key_c100008.go (path_Key_c100008) 0, tailOf (bodyOf Tryz.f123) 100008)]) (by kernel_rfl) trivial (by kernel_rfl) ⟨path_Key_c100008_ok, trivial⟩ (by kernel_rfl) path_Key_c100006_eq
theorem path_Key_c100004_ok : CutOK Tryz.prog AF_path_Key Tryz.f123.ntmps (AL_path_Key_c100004.go (path_Key_c100004) 0) (tailOf (bodyOf Tryz.f123) 100004) :=
  cut_sound Atab path_Key_hG Amixed (L := AL_path_Key_c100004) (k := 0) (f := path_Key_c100004) (C := AC_path_Key) (l := []) (m := [(AL_path_Key_c100006.go (path_Key_c100006) 0, tailOf (bodyOf Tryz.f123) 100006)]) (by kernel_rfl) trivial (by kernel_rfl) ⟨path_Key_c100006_ok, trivial⟩ (by kernel_rfl) path_Key_c100004_eq
theorem path_Key_c300003_ok : CutOK Tryz.prog AF_path_Key Tryz.f123.ntmps (AL_path_Key_c300003.go (path_Key_c300003) 0) (tailOf (bodyOf Tryz.f123) 300003) :=
  cut_sound Atab path_Key_hG Amixed (L := AL_path_Key_c300003) (k := 0) (f := path_Key_c300003) (C := AC_path_Key) (l := []) (m := [(AL_path_Key_c100004.go (path_Key_c100004) 0, tailOf (bodyOf Tryz.f123) 100004)]) (by kernel_rfl) trivial (by kernel_rfl) ⟨path_Key_c100004_ok, trivial⟩ (by kernel_rfl) path_Key_c300003_eq
theorem path_Key_ok : EntOK Tryz.prog AE_path_Key :=
  fun_soundK (C := AC_path_Key) (F := AF_path_Key) Atab path_Key_hG Amixed (fn := Tryz.f123) (l := []) (m := [(AL_path_Key_c300003.go (path_Key_c300003) 0, tailOf (bodyOf Tryz.f123) 300003)]) Tryz.func123 (by kernel_rfl) (by kernel_rfl) (by kernel_rfl) trivial (by kernel_rfl) ⟨path_Key_c300003_ok, trivial⟩ (by kernel_rfl) path_Key_eq
def AS_path_Place : Shape := ⟨[(0, (.dat .str))], []⟩
def AZ_path_Place : Shape := ⟨[(0, (.dat tapi_Place)), (1, (.dat (.int .i64)))], []⟩
def AE_path_Place : Ent := ⟨110, AS_path_Place, AZ_path_Place, path_Place⟩
def AF_path_Place : Fx := ⟨Acx, lookupG [AE_path_place_read, AE_path_Key], fun k st => .fail, fun _ => none, 0⟩
theorem path_Place_eq (s : AS_path_Place.ty.den) : @Eq (Option AZ_path_Place.ty.den) (evFn AF_path_Place Tryz.f110 AS_path_Place AZ_path_Place s).val (path_Place s) := by kernel_rfl
theorem path_Place_hG : GSound Tryz.prog AF_path_Place.Γ := ents_sound ⟨path_place_read_ok, path_Key_ok, trivial⟩
theorem path_Place_ok : EntOK Tryz.prog AE_path_Place :=
  fun_sound (F := AF_path_Place) Atab path_Place_hG Amixed (fn := Tryz.f110) (m := []) Tryz.func110 (by kernel_rfl) (by kernel_rfl) (by kernel_rfl) trivial (by kernel_rfl) path_Place_eq
def AS_entry_Charge : Shape := ⟨[(0, (.dat tapi_Pair))], []⟩
def AZ_entry_Charge : Shape := ⟨[(0, (.dat tapi_Use))], []⟩
def AE_entry_Charge : Ent := ⟨90, AS_entry_Charge, AZ_entry_Charge, entry_Charge⟩
def AF_entry_Charge : Fx := ⟨Acx, lookupG [AE_path_Place], fun k st => .fail, fun _ => none, 0⟩
theorem entry_Charge_eq (s : AS_entry_Charge.ty.den) : @Eq (Option AZ_entry_Charge.ty.den) (evFn AF_entry_Charge Tryz.f90 AS_entry_Charge AZ_entry_Charge s).val (entry_Charge s) := by kernel_rfl
theorem entry_Charge_hG : GSound Tryz.prog AF_entry_Charge.Γ := ents_sound ⟨path_Place_ok, trivial⟩
theorem entry_Charge_ok : EntOK Tryz.prog AE_entry_Charge :=
  fun_sound (F := AF_entry_Charge) Atab entry_Charge_hG Amixed (fn := Tryz.f90) (m := []) Tryz.func90 (by kernel_rfl) (by kernel_rfl) (by kernel_rfl) trivial (by kernel_rfl) entry_Charge_eq
def AL_entry_Total_0 : Lp := ⟨⟨[(2, (.ptr 0 tapi_Use 0 [])), (3, (.ptr 1 tapi_Use 0 [])), (7, (.dat (.list tapi_Pair))), (8, (.dat (.int .i64))), (9, (.dat (.int .i64)))], [.box 32 tapi_Use (.agg [(.dat (.int .i64)), (.dat (.int .i64))]), .box 32 tapi_Use (.agg [(.dat (.int .i64)), (.dat (.int .i64))])]⟩, (.exit 0), ⟨[(2, (.ptr 0 tapi_Use 0 [])), (3, (.ptr 1 tapi_Use 0 []))], [.box 32 tapi_Use (.agg [(.dat (.int .i64)), (.dat (.int .i64))]), .box 32 tapi_Use (.agg [(.dat (.int .i64)), (.dat (.int .i64))])]⟩, (.exit 80000000), ⟨[], []⟩⟩
def AS_entry_Total : Shape := ⟨[(0, (.dat (.list tapi_Pair)))], []⟩
def AZ_entry_Total : Shape := ⟨[(0, (.dat tapi_Use))], []⟩
def AE_entry_Total : Ent := ⟨71, AS_entry_Total, AZ_entry_Total, entry_Total⟩
def AF_entry_Total : Fx := ⟨Acx, lookupG [AE_entry_Charge], fun k st => bif Nat.beq k 0 then AL_entry_Total_0.go (entry_Total_l0) 0 st else .fail, fun _ => none, 0⟩
theorem entry_Total_b0_eq (s : AL_entry_Total_0.S.ty.den) : @Eq (Option (AL_entry_Total_0.S.ty.den ⊕ AL_entry_Total_0.Out)) (AL_entry_Total_0.body AF_entry_Total (loopAt (bodyOf Tryz.f71) 0) 0 s).val (entry_Total_b0 s) := by kernel_rfl
theorem entry_Total_eq (s : AS_entry_Total.ty.den) : @Eq (Option AZ_entry_Total.ty.den) (evFn AF_entry_Total Tryz.f71 AS_entry_Total AZ_entry_Total s).val (entry_Total s) := by kernel_rfl
theorem entry_Total_hG : GSound Tryz.prog AF_entry_Total.Γ := ents_sound ⟨entry_Charge_ok, trivial⟩
theorem entry_Total_la0 : LamOK Tryz.prog AF_entry_Total Tryz.f71.ntmps 0 (loopAt (bodyOf Tryz.f71) 0) :=
  lam_sound Atab entry_Total_hG Amixed (L := AL_entry_Total_0) (f := entry_Total_l0) (b := entry_Total_b0) (m := []) (fun _ => rfl) (by kernel_rfl) (by kernel_rfl) trivial (by kernel_rfl) entry_Total_b0_eq
theorem entry_Total_ok : EntOK Tryz.prog AE_entry_Total :=
  fun_sound (F := AF_entry_Total) Atab entry_Total_hG Amixed (fn := Tryz.f71) (m := [(0, loopAt (bodyOf Tryz.f71) 0)]) Tryz.func71 (by kernel_rfl) (by kernel_rfl) (by kernel_rfl) ⟨entry_Total_la0, trivial⟩ (by kernel_rfl) entry_Total_eq
def AS_quota_measure : Shape := ⟨[(0, (.dat (.list tapi_Pair))), (1, (.dat .str))], []⟩
def AZ_quota_measure : Shape := ⟨[(0, (.dat tquota_measured))], []⟩
def AE_quota_measure : Ent := ⟨47, AS_quota_measure, AZ_quota_measure, quota_measure⟩
def AF_quota_measure : Fx := ⟨Acx, lookupG [AE_span_Prefix, AE_table_Range, AE_entry_Total], fun k st => .fail, fun _ => none, 0⟩
theorem quota_measure_eq (s : AS_quota_measure.ty.den) : @Eq (Option AZ_quota_measure.ty.den) (evFn AF_quota_measure Tryz.f47 AS_quota_measure AZ_quota_measure s).val (quota_measure s) := by kernel_rfl
theorem quota_measure_hG : GSound Tryz.prog AF_quota_measure.Γ := ents_sound ⟨span_Prefix_ok, table_Range_ok, entry_Total_ok, trivial⟩
theorem quota_measure_ok : EntOK Tryz.prog AE_quota_measure :=
  fun_sound (F := AF_quota_measure) Atab quota_measure_hG Amixed (fn := Tryz.f47) (m := []) Tryz.func47 (by kernel_rfl) (by kernel_rfl) (by kernel_rfl) trivial (by kernel_rfl) quota_measure_eq
def AS_quota_Of : Shape := ⟨[(0, (.dat (.list tapi_Pair))), (1, (.dat .str))], []⟩
def AZ_quota_Of : Shape := ⟨[(0, (.dat tapi_Use))], []⟩
def AE_quota_Of : Ent := ⟨15, AS_quota_Of, AZ_quota_Of, quota_Of⟩
def AF_quota_Of : Fx := ⟨Acx, lookupG [AE_quota_measure], fun k st => .fail, fun _ => none, 0⟩
theorem quota_Of_eq (s : AS_quota_Of.ty.den) : @Eq (Option AZ_quota_Of.ty.den) (evFn AF_quota_Of Tryz.f15 AS_quota_Of AZ_quota_Of s).val (quota_Of s) := by kernel_rfl
theorem quota_Of_hG : GSound Tryz.prog AF_quota_Of.Γ := ents_sound ⟨quota_measure_ok, trivial⟩
theorem quota_Of_ok : EntOK Tryz.prog AE_quota_Of :=
  fun_sound (F := AF_quota_Of) Atab quota_Of_hG Amixed (fn := Tryz.f15) (m := []) Tryz.func15 (by kernel_rfl) (by kernel_rfl) (by kernel_rfl) trivial (by kernel_rfl) quota_Of_eq
def AS_law20_q : Shape := ⟨[(0, (.dat .str)), (1, (.dat (.int .i64))), (2, (.dat (.int .i64)))], []⟩
def AZ_law20_q : Shape := ⟨[(0, (.dat tapi_Quota))], []⟩
def AE_law20_q : Ent := ⟨39, AS_law20_q, AZ_law20_q, law20_q⟩
def AF_law20_q : Fx := ⟨Acx, lookupG [], fun k st => .fail, fun _ => none, 0⟩
theorem law20_q_eq (s : AS_law20_q.ty.den) : @Eq (Option AZ_law20_q.ty.den) (evFn AF_law20_q Tryz.f39 AS_law20_q AZ_law20_q s).val (law20_q s) := by kernel_rfl
theorem law20_q_hG : GSound Tryz.prog AF_law20_q.Γ := ents_sound trivial
theorem law20_q_ok : EntOK Tryz.prog AE_law20_q :=
  fun_sound (F := AF_law20_q) Atab law20_q_hG Amixed (fn := Tryz.f39) (m := []) Tryz.func39 (by kernel_rfl) (by kernel_rfl) (by kernel_rfl) trivial (by kernel_rfl) law20_q_eq
def AS_quota_amount_within : Shape := ⟨[(0, (.dat tquota_amount)), (1, (.dat tapi_Use))], []⟩
def AZ_quota_amount_within : Shape := ⟨[(0, (.dat .bool))], []⟩
def AE_quota_amount_within : Ent := ⟨56, AS_quota_amount_within, AZ_quota_amount_within, quota_amount_within⟩
def AF_quota_amount_within : Fx := ⟨Acx, lookupG [], fun k st => .fail, fun _ => none, 0⟩
theorem quota_amount_within_eq (s : AS_quota_amount_within.ty.den) : @Eq (Option AZ_quota_amount_within.ty.den) (evFn AF_quota_amount_within Tryz.f56 AS_quota_amount_within AZ_quota_amount_within s).val (quota_amount_within s) := by kernel_rfl
theorem quota_amount_within_hG : GSound Tryz.prog AF_quota_amount_within.Γ := ents_sound trivial
theorem quota_amount_within_ok : EntOK Tryz.prog AE_quota_amount_within :=
  fun_sound (F := AF_quota_amount_within) Atab quota_amount_within_hG Amixed (fn := Tryz.f56) (m := []) Tryz.func56 (by kernel_rfl) (by kernel_rfl) (by kernel_rfl) trivial (by kernel_rfl) quota_amount_within_eq
def AS_quota_FitsC1 : Shape := ⟨[(0, (.dat tapi_Quota)), (1, (.ptr 0 (.list tapi_Pair) 0 []))], [.box 25 (.list tapi_Pair) (.dat (.list tapi_Pair))]⟩
def AZ_quota_FitsC1 : Shape := ⟨[(0, (.dat .bool))], [.box 25 (.list tapi_Pair) (.dat (.list tapi_Pair))]⟩
def AE_quota_FitsC1 : Ent := ⟨55, AS_quota_FitsC1, AZ_quota_FitsC1, quota_FitsC1⟩
def AF_quota_FitsC1 : Fx := ⟨Acx, lookupG [AE_quota_measure, AE_quota_amount_within], fun k st => .fail, fun _ => none, 1⟩
theorem quota_FitsC1_eq (s : AS_quota_FitsC1.ty.den) : @Eq (Option AZ_quota_FitsC1.ty.den) (evFn AF_quota_FitsC1 Tryz.f55 AS_quota_FitsC1 AZ_quota_FitsC1 s).val (quota_FitsC1 s) := by kernel_rfl
theorem quota_FitsC1_hG : GSound Tryz.prog AF_quota_FitsC1.Γ := ents_sound ⟨quota_measure_ok, quota_amount_within_ok, trivial⟩
theorem quota_FitsC1_ok : EntOK Tryz.prog AE_quota_FitsC1 :=
  fun_sound (F := AF_quota_FitsC1) Atab quota_FitsC1_hG Amixed (fn := Tryz.f55) (m := []) Tryz.func55 (by kernel_rfl) (by kernel_rfl) (by kernel_rfl) trivial (by kernel_rfl) quota_FitsC1_eq
def AL_slices_IndexFunc_api_Quota_api_Quota_0 : Lp := ⟨⟨[(0, (.dat (.list tapi_Quota))), (1, (.fn 55 [] [(.ptr 0 (.list tapi_Pair) 0 [])])), (7, (.dat (.int .i64))), (8, (.dat (.int .i64)))], [.box 25 (.list tapi_Pair) (.dat (.list tapi_Pair))]⟩, .ret, ⟨[(4, (.dat (.int .i64)))], [.box 25 (.list tapi_Pair) (.dat (.list tapi_Pair))]⟩, (.exit 0), ⟨[], [.box 25 (.list tapi_Pair) (.dat (.list tapi_Pair))]⟩⟩
def AS_slices_IndexFunc_api_Quota_api_Quota : Shape := ⟨[(0, (.dat (.list tapi_Quota))), (1, (.fn 55 [] [(.ptr 0 (.list tapi_Pair) 0 [])]))], [.box 25 (.list tapi_Pair) (.dat (.list tapi_Pair))]⟩
def AZ_slices_IndexFunc_api_Quota_api_Quota : Shape := ⟨[(0, (.dat (.int .i64)))], [.box 25 (.list tapi_Pair) (.dat (.list tapi_Pair))]⟩
def AE_slices_IndexFunc_api_Quota_api_Quota : Ent := ⟨79, AS_slices_IndexFunc_api_Quota_api_Quota, AZ_slices_IndexFunc_api_Quota_api_Quota, slices_IndexFunc_api_Quota_api_Quota⟩
def AF_slices_IndexFunc_api_Quota_api_Quota : Fx := ⟨Acx, lookupG [AE_quota_FitsC1], fun k st => bif Nat.beq k 0 then AL_slices_IndexFunc_api_Quota_api_Quota_0.go (slices_IndexFunc_api_Quota_api_Quota_l0) 1 st else .fail, fun _ => none, 1⟩
theorem slices_IndexFunc_api_Quota_api_Quota_b0_eq (s : AL_slices_IndexFunc_api_Quota_api_Quota_0.S.ty.den) : @Eq (Option (AL_slices_IndexFunc_api_Quota_api_Quota_0.S.ty.den ⊕ AL_slices_IndexFunc_api_Quota_api_Quota_0.Out)) (AL_slices_IndexFunc_api_Quota_api_Quota_0.body AF_slices_IndexFunc_api_Quota_api_Quota (loopAt (bodyOf Tryz.f79) 0) 0 s).val (slices_IndexFunc_api_Quota_api_Quota_b0 s) := by kernel_rfl
theorem slices_IndexFunc_api_Quota_api_Quota_eq (s : AS_slices_IndexFunc_api_Quota_api_Quota.ty.den) : @Eq (Option AZ_slices_IndexFunc_api_Quota_api_Quota.ty.den) (evFn AF_slices_IndexFunc_api_Quota_api_Quota Tryz.f79 AS_slices_IndexFunc_api_Quota_api_Quota AZ_slices_IndexFunc_api_Quota_api_Quota s).val (slices_IndexFunc_api_Quota_api_Quota s) := by kernel_rfl
theorem slices_IndexFunc_api_Quota_api_Quota_hG : GSound Tryz.prog AF_slices_IndexFunc_api_Quota_api_Quota.Γ := ents_sound ⟨quota_FitsC1_ok, trivial⟩
theorem slices_IndexFunc_api_Quota_api_Quota_la0 : LamOK Tryz.prog AF_slices_IndexFunc_api_Quota_api_Quota Tryz.f79.ntmps 0 (loopAt (bodyOf Tryz.f79) 0) :=
  lam_sound Atab slices_IndexFunc_api_Quota_api_Quota_hG Amixed (L := AL_slices_IndexFunc_api_Quota_api_Quota_0) (f := slices_IndexFunc_api_Quota_api_Quota_l0) (b := slices_IndexFunc_api_Quota_api_Quota_b0) (m := []) (fun _ => rfl) (by kernel_rfl) (by kernel_rfl) trivial (by kernel_rfl) slices_IndexFunc_api_Quota_api_Quota_b0_eq
theorem slices_IndexFunc_api_Quota_api_Quota_ok : EntOK Tryz.prog AE_slices_IndexFunc_api_Quota_api_Quota :=
  fun_sound (F := AF_slices_IndexFunc_api_Quota_api_Quota) Atab slices_IndexFunc_api_Quota_api_Quota_hG Amixed (fn := Tryz.f79) (m := [(0, loopAt (bodyOf Tryz.f79) 0)]) Tryz.func79 (by kernel_rfl) (by kernel_rfl) (by kernel_rfl) ⟨slices_IndexFunc_api_Quota_api_Quota_la0, trivial⟩ (by kernel_rfl) slices_IndexFunc_api_Quota_api_Quota_eq
def AS_slices_ContainsFunc_api_Quota_api_Quota : Shape := ⟨[(0, (.dat (.list tapi_Quota))), (1, (.fn 55 [] [(.ptr 0 (.list tapi_Pair) 0 [])]))], [.box 25 (.list tapi_Pair) (.dat (.list tapi_Pair))]⟩
def AZ_slices_ContainsFunc_api_Quota_api_Quota : Shape := ⟨[(0, (.dat .bool))], [.box 25 (.list tapi_Pair) (.dat (.list tapi_Pair))]⟩
def AE_slices_ContainsFunc_api_Quota_api_Quota : Ent := ⟨57, AS_slices_ContainsFunc_api_Quota_api_Quota, AZ_slices_ContainsFunc_api_Quota_api_Quota, slices_ContainsFunc_api_Quota_api_Quota⟩
def AF_slices_ContainsFunc_api_Quota_api_Quota : Fx := ⟨Acx, lookupG [AE_quota_FitsC1, AE_slices_IndexFunc_api_Quota_api_Quota], fun k st => .fail, fun _ => none, 1⟩
theorem slices_ContainsFunc_api_Quota_api_Quota_eq (s : AS_slices_ContainsFunc_api_Quota_api_Quota.ty.den) : @Eq (Option AZ_slices_ContainsFunc_api_Quota_api_Quota.ty.den) (evFn AF_slices_ContainsFunc_api_Quota_api_Quota Tryz.f57 AS_slices_ContainsFunc_api_Quota_api_Quota AZ_slices_ContainsFunc_api_Quota_api_Quota s).val (slices_ContainsFunc_api_Quota_api_Quota s) := by kernel_rfl
theorem slices_ContainsFunc_api_Quota_api_Quota_hG : GSound Tryz.prog AF_slices_ContainsFunc_api_Quota_api_Quota.Γ := ents_sound ⟨quota_FitsC1_ok, slices_IndexFunc_api_Quota_api_Quota_ok, trivial⟩
theorem slices_ContainsFunc_api_Quota_api_Quota_ok : EntOK Tryz.prog AE_slices_ContainsFunc_api_Quota_api_Quota :=
  fun_sound (F := AF_slices_ContainsFunc_api_Quota_api_Quota) Atab slices_ContainsFunc_api_Quota_api_Quota_hG Amixed (fn := Tryz.f57) (m := []) Tryz.func57 (by kernel_rfl) (by kernel_rfl) (by kernel_rfl) trivial (by kernel_rfl) slices_ContainsFunc_api_Quota_api_Quota_eq

end D
/- Entries, by program. -/
set_option linter.unusedVariables false
set_option maxRecDepth 100000
open Go Go.X Go.Proofs D
namespace D
def AS_quota_Fits : Shape := ⟨[(0, (.dat (.list tapi_Pair))), (1, (.dat (.list tapi_Quota)))], []⟩
def AZ_quota_Fits : Shape := ⟨[(0, (.dat .bool))], []⟩
def AE_quota_Fits : Ent := ⟨21, AS_quota_Fits, AZ_quota_Fits, quota_Fits⟩
def AF_quota_Fits : Fx := ⟨Acx, lookupG [AE_quota_FitsC1, AE_slices_ContainsFunc_api_Quota_api_Quota], fun k st => .fail, fun _ => none, 0⟩
theorem quota_Fits_eq (s : AS_quota_Fits.ty.den) : @Eq (Option AZ_quota_Fits.ty.den) (evFn AF_quota_Fits Tryz.f21 AS_quota_Fits AZ_quota_Fits s).val (quota_Fits s) := by kernel_rfl
theorem quota_Fits_hG : GSound Tryz.prog AF_quota_Fits.Γ := ents_sound ⟨quota_FitsC1_ok, slices_ContainsFunc_api_Quota_api_Quota_ok, trivial⟩
theorem quota_Fits_ok : EntOK Tryz.prog AE_quota_Fits :=
  fun_sound (F := AF_quota_Fits) Atab quota_Fits_hG Amixed (fn := Tryz.f21) (m := []) Tryz.func21 (by kernel_rfl) (by kernel_rfl) (by kernel_rfl) trivial (by kernel_rfl) quota_Fits_eq
def AS_slices_Clone_api_Pair_api_Pair : Shape := ⟨[(0, (.dat (.list tapi_Pair)))], []⟩
def AZ_slices_Clone_api_Pair_api_Pair : Shape := ⟨[(0, (.own tapi_Pair 0))], [.arr 58 tapi_Pair false]⟩
def AE_slices_Clone_api_Pair_api_Pair : Ent := ⟨181, AS_slices_Clone_api_Pair_api_Pair, AZ_slices_Clone_api_Pair_api_Pair, slices_Clone_api_Pair_api_Pair⟩
def AF_slices_Clone_api_Pair_api_Pair : Fx := ⟨Acx, lookupG [], fun _ _ => .fail, fun _ => none, 0⟩
theorem slices_Clone_api_Pair_api_Pair_ok : EntOK Tryz.prog AE_slices_Clone_api_Pair_api_Pair :=
  clone_ent (F := AF_slices_Clone_api_Pair_api_Pair) Atab (ents_sound trivial) Amixed (fn := Tryz.f181) Tryz.func181 (by kernel_rfl) (by kernel_rfl) (by kernel_rfl) (by kernel_rfl) (fun s => (decide ((List.length ([] : List (api_Pair)) + List.length s.1) * 40 ≤ roomMax))) (fun s => (s.1, ())) (fun s => ([], ())) (fun s => List.length s.1) (fun s => rfl) (fun s => by kernel_rfl) (fun s => by kernel_rfl) (fun s h => congrArg (fun l => (l, ())) (List.eq_nil_of_length_eq_zero h).symm)
def AS_slices_Insert_api_Pair_api_Pair : Shape := ⟨[(0, (.own tapi_Pair 0)), (1, (.dat (.int .i64))), (2, (.own tapi_Pair 1))], [.arr 58 tapi_Pair false, .arr 58 tapi_Pair false]⟩
def AZ_slices_Insert_api_Pair_api_Pair : Shape := ⟨[(0, (.own tapi_Pair 2))], [.gone, .arr 58 tapi_Pair false, .arr 58 tapi_Pair false]⟩
def AE_slices_Insert_api_Pair_api_Pair : Ent := ⟨182, AS_slices_Insert_api_Pair_api_Pair, AZ_slices_Insert_api_Pair_api_Pair, slices_Insert_api_Pair_api_Pair⟩
def AF_slices_Insert_api_Pair_api_Pair : Fx := ⟨Acx, addG 183 (ovG tapi_Pair) (lookupG []), fun _ _ => .fail, fun _ => none, 2⟩
theorem slices_Insert_api_Pair_api_Pair_hG : GSound Tryz.prog AF_slices_Insert_api_Pair_api_Pair.Γ := addX_sound (ov_ent Atab (T := 25) (T2 := 4) (t := tapi_Pair) (by kernel_rfl) (by kernel_rfl) Tryz.func183 (by kernel_rfl) (by kernel_rfl) (by kernel_rfl) (by kernel_rfl)) (ents_sound trivial)
theorem slices_Insert_api_Pair_api_Pair_ok : EntOK Tryz.prog AE_slices_Insert_api_Pair_api_Pair :=
  insert_ent (F := AF_slices_Insert_api_Pair_api_Pair) (e := 58) (t := tapi_Pair) (bytes := 40) Atab slices_Insert_api_Pair_api_Pair_hG Amixed (by kernel_rfl) (by kernel_rfl) (fn := Tryz.f182) Tryz.func182 (by kernel_rfl) (by kernel_rfl) (by kernel_rfl) (by kernel_rfl) (by kernel_rfl) rfl (fun i xs ys => by kernel_rfl) (fun i xs z ys => by kernel_rfl)
def AS_table_Put : Shape := ⟨[(0, (.dat (.list tapi_Pair))), (1, (.dat tapi_Pair))], []⟩
def AZ_table_Put : Shape := ⟨[(0, (.own tapi_Pair 0))], [.arr 58 tapi_Pair false]⟩
def AE_table_Put : Ent := ⟨180, AS_table_Put, AZ_table_Put, table_Put⟩
def AF_table_Put : Fx := ⟨Acx, lookupG [AE_table_place, AE_slices_Clone_api_Pair_api_Pair, AE_slices_Insert_api_Pair_api_Pair], fun k st => .fail, fun _ => none, 0⟩
theorem table_Put_eq (s : AS_table_Put.ty.den) : @Eq (Option AZ_table_Put.ty.den) (evFn AF_table_Put Tryz.f180 AS_table_Put AZ_table_Put s).val (table_Put s) := by kernel_rfl
theorem table_Put_hG : GSound Tryz.prog AF_table_Put.Γ := ents_sound ⟨table_place_ok, slices_Clone_api_Pair_api_Pair_ok, slices_Insert_api_Pair_api_Pair_ok, trivial⟩
theorem table_Put_ok : EntOK Tryz.prog AE_table_Put :=
  fun_sound (F := AF_table_Put) Atab table_Put_hG Amixed (fn := Tryz.f180) (m := []) Tryz.func180 (by kernel_rfl) (by kernel_rfl) (by kernel_rfl) trivial (by kernel_rfl) table_Put_eq
def AS_msg_put_apply : Shape := ⟨[(0, (.dat tapi_Msg)), (1, (.dat (.list tapi_Pair)))], []⟩
def AZ_msg_put_apply : Shape := ⟨[(0, (.own tapi_Pair 0))], [.arr 58 tapi_Pair false]⟩
def AE_msg_put_apply : Ent := ⟨174, AS_msg_put_apply, AZ_msg_put_apply, msg_put_apply⟩
def AF_msg_put_apply : Fx := ⟨Acx, lookupG [AE_table_Put], fun k st => .fail, fun _ => none, 0⟩
theorem msg_put_apply_eq (s : AS_msg_put_apply.ty.den) : @Eq (Option AZ_msg_put_apply.ty.den) (evFn AF_msg_put_apply Tryz.f174 AS_msg_put_apply AZ_msg_put_apply s).val (msg_put_apply s) := by kernel_rfl
theorem msg_put_apply_hG : GSound Tryz.prog AF_msg_put_apply.Γ := ents_sound ⟨table_Put_ok, trivial⟩
theorem msg_put_apply_ok : EntOK Tryz.prog AE_msg_put_apply :=
  fun_sound (F := AF_msg_put_apply) Atab msg_put_apply_hG Amixed (fn := Tryz.f174) (m := []) Tryz.func174 (by kernel_rfl) (by kernel_rfl) (by kernel_rfl) trivial (by kernel_rfl) msg_put_apply_eq
def AS_span_One : Shape := ⟨[(0, (.dat .str))], []⟩
def AZ_span_One : Shape := ⟨[(0, (.dat tapi_Span))], []⟩
def AE_span_One : Ent := ⟨195, AS_span_One, AZ_span_One, span_One⟩
def AF_span_One : Fx := ⟨Acx, lookupG [], fun k st => .fail, fun _ => none, 0⟩
theorem span_One_eq (s : AS_span_One.ty.den) : @Eq (Option AZ_span_One.ty.den) (evFn AF_span_One Tryz.f195 AS_span_One AZ_span_One s).val (span_One s) := by kernel_rfl
theorem span_One_hG : GSound Tryz.prog AF_span_One.Γ := ents_sound trivial
theorem span_One_ok : EntOK Tryz.prog AE_span_One :=
  fun_sound (F := AF_span_One) Atab span_One_hG Amixed (fn := Tryz.f195) (m := []) Tryz.func195 (by kernel_rfl) (by kernel_rfl) (by kernel_rfl) trivial (by kernel_rfl) span_One_eq
def AS_slices_Grow_api_Pair_api_Pair : Shape := ⟨[(0, (.nils 58 tapi_Pair)), (1, (.dat (.int .i64)))], []⟩
def AZ_slices_Grow_api_Pair_api_Pair : Shape := ⟨[(0, (.own tapi_Pair 0))], [.arr 58 tapi_Pair false]⟩
def AE_slices_Grow_api_Pair_api_Pair : Ent := ⟨197, AS_slices_Grow_api_Pair_api_Pair, AZ_slices_Grow_api_Pair_api_Pair, slices_Grow_api_Pair_api_Pair⟩
def AF_slices_Grow_api_Pair_api_Pair : Fx := ⟨Acx, lookupG [], fun k st => .fail, fun _ => none, 0⟩
theorem slices_Grow_api_Pair_api_Pair_eq (s : AS_slices_Grow_api_Pair_api_Pair.ty.den) : @Eq (Option AZ_slices_Grow_api_Pair_api_Pair.ty.den) (evFn AF_slices_Grow_api_Pair_api_Pair Tryz.f197 AS_slices_Grow_api_Pair_api_Pair AZ_slices_Grow_api_Pair_api_Pair s).val (slices_Grow_api_Pair_api_Pair s) := by kernel_rfl
theorem slices_Grow_api_Pair_api_Pair_hG : GSound Tryz.prog AF_slices_Grow_api_Pair_api_Pair.Γ := ents_sound trivial
theorem slices_Grow_api_Pair_api_Pair_ok : EntOK Tryz.prog AE_slices_Grow_api_Pair_api_Pair :=
  fun_sound (F := AF_slices_Grow_api_Pair_api_Pair) Atab slices_Grow_api_Pair_api_Pair_hG Amixed (fn := Tryz.f197) (m := []) Tryz.func197 (by kernel_rfl) (by kernel_rfl) (by kernel_rfl) trivial (by kernel_rfl) slices_Grow_api_Pair_api_Pair_eq
def AL_slices_Concat_api_Pair_api_Pair_0 : Lp := ⟨⟨[(0, (.dat (.list (.list tapi_Pair)))), (3, (.dat (.int .i64))), (9, (.dat (.list (.list tapi_Pair)))), (10, (.dat (.int .i64))), (11, (.dat (.int .i64)))], []⟩, (.exit 0), ⟨[(0, (.dat (.list (.list tapi_Pair)))), (3, (.dat (.int .i64)))], []⟩, (.exit 80000000), ⟨[], []⟩⟩
def AL_slices_Concat_api_Pair_api_Pair_1 : Lp := ⟨⟨[(6, (.own tapi_Pair 0)), (25, (.dat (.list (.list tapi_Pair)))), (26, (.dat (.int .i64))), (27, (.dat (.int .i64)))], [.arr 58 tapi_Pair false]⟩, (.exit 2), ⟨[(6, (.own tapi_Pair 0))], [.arr 58 tapi_Pair false]⟩, (.exit 80000002), ⟨[], []⟩⟩
def AS_slices_Concat_api_Pair_api_Pair : Shape := ⟨[(0, (.dat (.list (.list tapi_Pair))))], []⟩
def AZ_slices_Concat_api_Pair_api_Pair : Shape := ⟨[(0, (.own tapi_Pair 0))], [.arr 58 tapi_Pair false]⟩
def AE_slices_Concat_api_Pair_api_Pair : Ent := ⟨196, AS_slices_Concat_api_Pair_api_Pair, AZ_slices_Concat_api_Pair_api_Pair, slices_Concat_api_Pair_api_Pair⟩
def AF_slices_Concat_api_Pair_api_Pair : Fx := ⟨Acx, lookupG [AE_slices_Grow_api_Pair_api_Pair], fun k st => bif Nat.beq k 0 then AL_slices_Concat_api_Pair_api_Pair_0.go (slices_Concat_api_Pair_api_Pair_l0) 0 st else bif Nat.beq k 2 then AL_slices_Concat_api_Pair_api_Pair_1.go (slices_Concat_api_Pair_api_Pair_l1) 0 st else .fail, fun _ => none, 0⟩
theorem slices_Concat_api_Pair_api_Pair_b0_eq (s : AL_slices_Concat_api_Pair_api_Pair_0.S.ty.den) : @Eq (Option (AL_slices_Concat_api_Pair_api_Pair_0.S.ty.den ⊕ AL_slices_Concat_api_Pair_api_Pair_0.Out)) (AL_slices_Concat_api_Pair_api_Pair_0.body AF_slices_Concat_api_Pair_api_Pair (loopAt (bodyOf Tryz.f196) 0) 0 s).val (slices_Concat_api_Pair_api_Pair_b0 s) := by kernel_rfl
theorem slices_Concat_api_Pair_api_Pair_b1_eq (s : AL_slices_Concat_api_Pair_api_Pair_1.S.ty.den) : @Eq (Option (AL_slices_Concat_api_Pair_api_Pair_1.S.ty.den ⊕ AL_slices_Concat_api_Pair_api_Pair_1.Out)) (AL_slices_Concat_api_Pair_api_Pair_1.body AF_slices_Concat_api_Pair_api_Pair (loopAt (bodyOf Tryz.f196) 1) 2 s).val (slices_Concat_api_Pair_api_Pair_b1 s) := by kernel_rfl
theorem slices_Concat_api_Pair_api_Pair_eq (s : AS_slices_Concat_api_Pair_api_Pair.ty.den) : @Eq (Option AZ_slices_Concat_api_Pair_api_Pair.ty.den) (evFn AF_slices_Concat_api_Pair_api_Pair Tryz.f196 AS_slices_Concat_api_Pair_api_Pair AZ_slices_Concat_api_Pair_api_Pair s).val (slices_Concat_api_Pair_api_Pair s) := by kernel_rfl
theorem slices_Concat_api_Pair_api_Pair_hG : GSound Tryz.prog AF_slices_Concat_api_Pair_api_Pair.Γ := ents_sound ⟨slices_Grow_api_Pair_api_Pair_ok, trivial⟩
theorem slices_Concat_api_Pair_api_Pair_la0 : LamOK Tryz.prog AF_slices_Concat_api_Pair_api_Pair Tryz.f196.ntmps 0 (loopAt (bodyOf Tryz.f196) 0) :=
  lam_sound Atab slices_Concat_api_Pair_api_Pair_hG Amixed (L := AL_slices_Concat_api_Pair_api_Pair_0) (f := slices_Concat_api_Pair_api_Pair_l0) (b := slices_Concat_api_Pair_api_Pair_b0) (m := []) (fun _ => rfl) (by kernel_rfl) (by kernel_rfl) trivial (by kernel_rfl) slices_Concat_api_Pair_api_Pair_b0_eq
theorem slices_Concat_api_Pair_api_Pair_la1 : LamOK Tryz.prog AF_slices_Concat_api_Pair_api_Pair Tryz.f196.ntmps 2 (loopAt (bodyOf Tryz.f196) 1) :=
  lam_sound Atab slices_Concat_api_Pair_api_Pair_hG Amixed (L := AL_slices_Concat_api_Pair_api_Pair_1) (f := slices_Concat_api_Pair_api_Pair_l1) (b := slices_Concat_api_Pair_api_Pair_b1) (m := []) (fun _ => rfl) (by kernel_rfl) (by kernel_rfl) trivial (by kernel_rfl) slices_Concat_api_Pair_api_Pair_b1_eq
theorem slices_Concat_api_Pair_api_Pair_ok : EntOK Tryz.prog AE_slices_Concat_api_Pair_api_Pair :=
  fun_sound (F := AF_slices_Concat_api_Pair_api_Pair) Atab slices_Concat_api_Pair_api_Pair_hG Amixed (fn := Tryz.f196) (m := [(0, loopAt (bodyOf Tryz.f196) 0), (2, loopAt (bodyOf Tryz.f196) 1)]) Tryz.func196 (by kernel_rfl) (by kernel_rfl) (by kernel_rfl) ⟨slices_Concat_api_Pair_api_Pair_la0, slices_Concat_api_Pair_api_Pair_la1, trivial⟩ (by kernel_rfl) slices_Concat_api_Pair_api_Pair_eq
def AS_table_Drop : Shape := ⟨[(0, (.dat (.list tapi_Pair))), (1, (.dat tapi_Span))], []⟩
def AZ_table_Drop : Shape := ⟨[(0, (.own tapi_Pair 0))], [.arr 58 tapi_Pair false]⟩
def AE_table_Drop : Ent := ⟨194, AS_table_Drop, AZ_table_Drop, table_Drop⟩
def AF_table_Drop : Fx := ⟨Acx, lookupG [AE_table_bounds, AE_slices_Concat_api_Pair_api_Pair], fun k st => .fail, fun _ => none, 0⟩
theorem table_Drop_eq (s : AS_table_Drop.ty.den) : @Eq (Option AZ_table_Drop.ty.den) (evFn AF_table_Drop Tryz.f194 AS_table_Drop AZ_table_Drop s).val (table_Drop s) := by kernel_rfl
theorem table_Drop_hG : GSound Tryz.prog AF_table_Drop.Γ := ents_sound ⟨table_bounds_ok, slices_Concat_api_Pair_api_Pair_ok, trivial⟩
theorem table_Drop_ok : EntOK Tryz.prog AE_table_Drop :=
  fun_sound (F := AF_table_Drop) Atab table_Drop_hG Amixed (fn := Tryz.f194) (m := []) Tryz.func194 (by kernel_rfl) (by kernel_rfl) (by kernel_rfl) trivial (by kernel_rfl) table_Drop_eq
def AS_table_Del : Shape := ⟨[(0, (.dat (.list tapi_Pair))), (1, (.dat .str))], []⟩
def AZ_table_Del : Shape := ⟨[(0, (.own tapi_Pair 0))], [.arr 58 tapi_Pair false]⟩
def AE_table_Del : Ent := ⟨193, AS_table_Del, AZ_table_Del, table_Del⟩
def AF_table_Del : Fx := ⟨Acx, lookupG [AE_span_One, AE_table_Drop], fun k st => .fail, fun _ => none, 0⟩
theorem table_Del_eq (s : AS_table_Del.ty.den) : @Eq (Option AZ_table_Del.ty.den) (evFn AF_table_Del Tryz.f193 AS_table_Del AZ_table_Del s).val (table_Del s) := by kernel_rfl
theorem table_Del_hG : GSound Tryz.prog AF_table_Del.Γ := ents_sound ⟨span_One_ok, table_Drop_ok, trivial⟩
theorem table_Del_ok : EntOK Tryz.prog AE_table_Del :=
  fun_sound (F := AF_table_Del) Atab table_Del_hG Amixed (fn := Tryz.f193) (m := []) Tryz.func193 (by kernel_rfl) (by kernel_rfl) (by kernel_rfl) trivial (by kernel_rfl) table_Del_eq
def AS_msg_del_apply : Shape := ⟨[(0, (.dat tapi_Msg)), (1, (.dat (.list tapi_Pair)))], []⟩
def AZ_msg_del_apply : Shape := ⟨[(0, (.own tapi_Pair 0))], [.arr 58 tapi_Pair false]⟩
def AE_msg_del_apply : Ent := ⟨187, AS_msg_del_apply, AZ_msg_del_apply, msg_del_apply⟩
def AF_msg_del_apply : Fx := ⟨Acx, lookupG [AE_table_Del], fun k st => .fail, fun _ => none, 0⟩
theorem msg_del_apply_eq (s : AS_msg_del_apply.ty.den) : @Eq (Option AZ_msg_del_apply.ty.den) (evFn AF_msg_del_apply Tryz.f187 AS_msg_del_apply AZ_msg_del_apply s).val (msg_del_apply s) := by kernel_rfl
theorem msg_del_apply_hG : GSound Tryz.prog AF_msg_del_apply.Γ := ents_sound ⟨table_Del_ok, trivial⟩
theorem msg_del_apply_ok : EntOK Tryz.prog AE_msg_del_apply :=
  fun_sound (F := AF_msg_del_apply) Atab msg_del_apply_hG Amixed (fn := Tryz.f187) (m := []) Tryz.func187 (by kernel_rfl) (by kernel_rfl) (by kernel_rfl) trivial (by kernel_rfl) msg_del_apply_eq
def AS_msg_drop_apply : Shape := ⟨[(0, (.dat tapi_Msg)), (1, (.dat (.list tapi_Pair)))], []⟩
def AZ_msg_drop_apply : Shape := ⟨[(0, (.own tapi_Pair 0))], [.arr 58 tapi_Pair false]⟩
def AE_msg_drop_apply : Ent := ⟨198, AS_msg_drop_apply, AZ_msg_drop_apply, msg_drop_apply⟩
def AF_msg_drop_apply : Fx := ⟨Acx, lookupG [AE_table_Drop], fun k st => .fail, fun _ => none, 0⟩
theorem msg_drop_apply_eq (s : AS_msg_drop_apply.ty.den) : @Eq (Option AZ_msg_drop_apply.ty.den) (evFn AF_msg_drop_apply Tryz.f198 AS_msg_drop_apply AZ_msg_drop_apply s).val (msg_drop_apply s) := by kernel_rfl
theorem msg_drop_apply_hG : GSound Tryz.prog AF_msg_drop_apply.Γ := ents_sound ⟨table_Drop_ok, trivial⟩
theorem msg_drop_apply_ok : EntOK Tryz.prog AE_msg_drop_apply :=
  fun_sound (F := AF_msg_drop_apply) Atab msg_drop_apply_hG Amixed (fn := Tryz.f198) (m := []) Tryz.func198 (by kernel_rfl) (by kernel_rfl) (by kernel_rfl) trivial (by kernel_rfl) msg_drop_apply_eq
def AS_span_Moved : Shape := ⟨[(0, (.dat .str)), (1, (.dat .str)), (2, (.dat .str))], []⟩
def AZ_span_Moved : Shape := ⟨[(0, (.dat .str)), (1, (.dat .bool))], []⟩
def AE_span_Moved : Ent := ⟨51, AS_span_Moved, AZ_span_Moved, span_Moved⟩
def AF_span_Moved : Fx := ⟨Acx, lookupG [AE_strings_CutPrefix], fun k st => .fail, fun _ => none, 0⟩
theorem span_Moved_eq (s : AS_span_Moved.ty.den) : @Eq (Option AZ_span_Moved.ty.den) (evFn AF_span_Moved Tryz.f51 AS_span_Moved AZ_span_Moved s).val (span_Moved s) := by kernel_rfl
theorem span_Moved_hG : GSound Tryz.prog AF_span_Moved.Γ := ents_sound ⟨strings_CutPrefix_ok, trivial⟩
theorem span_Moved_ok : EntOK Tryz.prog AE_span_Moved :=
  fun_sound (F := AF_span_Moved) Atab span_Moved_hG Amixed (fn := Tryz.f51) (m := []) Tryz.func51 (by kernel_rfl) (by kernel_rfl) (by kernel_rfl) trivial (by kernel_rfl) span_Moved_eq
def AL_msg_moved_0 : Lp := ⟨⟨[(1, (.dat .str)), (2, (.dat .str)), (7, (.own tapi_Pair 0)), (15, (.dat (.int .i64))), (16, (.dat (.int .i64)))], [.arr 58 tapi_Pair false]⟩, (.exit 0), ⟨[(7, (.own tapi_Pair 0))], [.arr 58 tapi_Pair false]⟩, (.exit 80000000), ⟨[], []⟩⟩
def AS_msg_moved : Shape := ⟨[(0, (.dat (.list tapi_Pair))), (1, (.dat .str)), (2, (.dat .str))], []⟩
def AZ_msg_moved : Shape := ⟨[(0, (.own tapi_Pair 0))], [.arr 58 tapi_Pair false]⟩
def AE_msg_moved : Ent := ⟨212, AS_msg_moved, AZ_msg_moved, msg_moved⟩
def AF_msg_moved : Fx := ⟨Acx, lookupG [AE_span_Prefix, AE_table_Range, AE_slices_Clone_api_Pair_api_Pair, AE_span_Moved], fun k st => bif Nat.beq k 0 then AL_msg_moved_0.go (msg_moved_l0) 0 st else .fail, fun _ => none, 0⟩
theorem msg_moved_b0_eq (s : AL_msg_moved_0.S.ty.den) : @Eq (Option (AL_msg_moved_0.S.ty.den ⊕ AL_msg_moved_0.Out)) (AL_msg_moved_0.body AF_msg_moved (loopAt (bodyOf Tryz.f212) 0) 0 s).val (msg_moved_b0 s) := by kernel_rfl
theorem msg_moved_eq (s : AS_msg_moved.ty.den) : @Eq (Option AZ_msg_moved.ty.den) (evFn AF_msg_moved Tryz.f212 AS_msg_moved AZ_msg_moved s).val (msg_moved s) := by kernel_rfl
theorem msg_moved_hG : GSound Tryz.prog AF_msg_moved.Γ := ents_sound ⟨span_Prefix_ok, table_Range_ok, slices_Clone_api_Pair_api_Pair_ok, span_Moved_ok, trivial⟩
theorem msg_moved_la0 : LamOK Tryz.prog AF_msg_moved Tryz.f212.ntmps 0 (loopAt (bodyOf Tryz.f212) 0) :=
  lam_sound Atab msg_moved_hG Amixed (L := AL_msg_moved_0) (f := msg_moved_l0) (b := msg_moved_b0) (m := []) (fun _ => rfl) (by kernel_rfl) (by kernel_rfl) trivial (by kernel_rfl) msg_moved_b0_eq
theorem msg_moved_ok : EntOK Tryz.prog AE_msg_moved :=
  fun_sound (F := AF_msg_moved) Atab msg_moved_hG Amixed (fn := Tryz.f212) (m := [(0, loopAt (bodyOf Tryz.f212) 0)]) Tryz.func212 (by kernel_rfl) (by kernel_rfl) (by kernel_rfl) ⟨msg_moved_la0, trivial⟩ (by kernel_rfl) msg_moved_eq
def AL_table_Union_0 : Lp := ⟨⟨[(0, (.dat (.list tapi_Pair))), (1, (.dat (.list tapi_Pair))), (5, (.own tapi_Pair 0))], [.arr 58 tapi_Pair false]⟩, (.exit 0), ⟨[(0, (.dat (.list tapi_Pair))), (1, (.dat (.list tapi_Pair))), (5, (.own tapi_Pair 0))], [.arr 58 tapi_Pair false]⟩, (.exit 80000000), ⟨[], []⟩⟩
def AS_table_Union : Shape := ⟨[(0, (.dat (.list tapi_Pair))), (1, (.dat (.list tapi_Pair)))], []⟩
def AZ_table_Union : Shape := ⟨[(0, (.own tapi_Pair 0))], [.arr 58 tapi_Pair false]⟩
def AE_table_Union : Ent := ⟨211, AS_table_Union, AZ_table_Union, table_Union⟩
def AF_table_Union : Fx := ⟨Acx, lookupG [], fun k st => bif Nat.beq k 0 then AL_table_Union_0.go (table_Union_l0) 0 st else .fail, fun _ => none, 0⟩
theorem table_Union_b0_eq (s : AL_table_Union_0.S.ty.den) : @Eq (Option (AL_table_Union_0.S.ty.den ⊕ AL_table_Union_0.Out)) (AL_table_Union_0.body AF_table_Union (loopAt (bodyOf Tryz.f211) 0) 0 s).val (table_Union_b0 s) := by kernel_rfl
theorem table_Union_eq (s : AS_table_Union.ty.den) : @Eq (Option AZ_table_Union.ty.den) (evFn AF_table_Union Tryz.f211 AS_table_Union AZ_table_Union s).val (table_Union s) := by kernel_rfl
theorem table_Union_hG : GSound Tryz.prog AF_table_Union.Γ := ents_sound trivial
theorem table_Union_la0 : LamOK Tryz.prog AF_table_Union Tryz.f211.ntmps 0 (loopAt (bodyOf Tryz.f211) 0) :=
  lam_sound Atab table_Union_hG Amixed (L := AL_table_Union_0) (f := table_Union_l0) (b := table_Union_b0) (m := []) (fun _ => rfl) (by kernel_rfl) (by kernel_rfl) trivial (by kernel_rfl) table_Union_b0_eq
theorem table_Union_ok : EntOK Tryz.prog AE_table_Union :=
  fun_sound (F := AF_table_Union) Atab table_Union_hG Amixed (fn := Tryz.f211) (m := [(0, loopAt (bodyOf Tryz.f211) 0)]) Tryz.func211 (by kernel_rfl) (by kernel_rfl) (by kernel_rfl) ⟨table_Union_la0, trivial⟩ (by kernel_rfl) table_Union_eq
def AS_msg_clone_apply : Shape := ⟨[(0, (.dat tapi_Msg)), (1, (.dat (.list tapi_Pair)))], []⟩
def AZ_msg_clone_apply : Shape := ⟨[(0, (.own tapi_Pair 0))], [.arr 58 tapi_Pair false]⟩
def AE_msg_clone_apply : Ent := ⟨210, AS_msg_clone_apply, AZ_msg_clone_apply, msg_clone_apply⟩
def AF_msg_clone_apply : Fx := ⟨Acx, lookupG [AE_span_Prefix, AE_table_Drop, AE_msg_moved, AE_table_Union], fun k st => .fail, fun _ => none, 0⟩
theorem msg_clone_apply_eq (s : AS_msg_clone_apply.ty.den) : @Eq (Option AZ_msg_clone_apply.ty.den) (evFn AF_msg_clone_apply Tryz.f210 AS_msg_clone_apply AZ_msg_clone_apply s).val (msg_clone_apply s) := by kernel_rfl
theorem msg_clone_apply_hG : GSound Tryz.prog AF_msg_clone_apply.Γ := ents_sound ⟨span_Prefix_ok, table_Drop_ok, msg_moved_ok, table_Union_ok, trivial⟩
theorem msg_clone_apply_ok : EntOK Tryz.prog AE_msg_clone_apply :=
  fun_sound (F := AF_msg_clone_apply) Atab msg_clone_apply_hG Amixed (fn := Tryz.f210) (m := []) Tryz.func210 (by kernel_rfl) (by kernel_rfl) (by kernel_rfl) trivial (by kernel_rfl) msg_clone_apply_eq
def AS_msg_move_apply : Shape := ⟨[(0, (.dat tapi_Msg)), (1, (.dat (.list tapi_Pair)))], []⟩
def AZ_msg_move_apply : Shape := ⟨[(0, (.own tapi_Pair 0))], [.arr 58 tapi_Pair false]⟩
def AE_msg_move_apply : Ent := ⟨204, AS_msg_move_apply, AZ_msg_move_apply, msg_move_apply⟩
def AF_msg_move_apply : Fx := ⟨Acx, lookupG [AE_span_Prefix, AE_table_Drop, AE_msg_clone_apply], fun k st => .fail, fun _ => none, 0⟩
theorem msg_move_apply_eq (s : AS_msg_move_apply.ty.den) : @Eq (Option AZ_msg_move_apply.ty.den) (evFn AF_msg_move_apply Tryz.f204 AS_msg_move_apply AZ_msg_move_apply s).val (msg_move_apply s) := by kernel_rfl
theorem msg_move_apply_hG : GSound Tryz.prog AF_msg_move_apply.Γ := ents_sound ⟨span_Prefix_ok, table_Drop_ok, msg_clone_apply_ok, trivial⟩
theorem msg_move_apply_ok : EntOK Tryz.prog AE_msg_move_apply :=
  fun_sound (F := AF_msg_move_apply) Atab msg_move_apply_hG Amixed (fn := Tryz.f204) (m := []) Tryz.func204 (by kernel_rfl) (by kernel_rfl) (by kernel_rfl) trivial (by kernel_rfl) msg_move_apply_eq
def AS_span_Has : Shape := ⟨[(0, (.dat tapi_Span)), (1, (.dat .str))], []⟩
def AZ_span_Has : Shape := ⟨[(0, (.dat .bool))], []⟩
def AE_span_Has : Ent := ⟨224, AS_span_Has, AZ_span_Has, span_Has⟩
def AF_span_Has : Fx := ⟨Acx, lookupG [], fun k st => .fail, fun _ => none, 0⟩
theorem span_Has_eq (s : AS_span_Has.ty.den) : @Eq (Option AZ_span_Has.ty.den) (evFn AF_span_Has Tryz.f224 AS_span_Has AZ_span_Has s).val (span_Has s) := by kernel_rfl
theorem span_Has_hG : GSound Tryz.prog AF_span_Has.Γ := ents_sound trivial
theorem span_Has_ok : EntOK Tryz.prog AE_span_Has :=
  fun_sound (F := AF_span_Has) Atab span_Has_hG Amixed (fn := Tryz.f224) (m := []) Tryz.func224 (by kernel_rfl) (by kernel_rfl) (by kernel_rfl) trivial (by kernel_rfl) span_Has_eq
def AL_msg_stamp_apply_0 : Lp := ⟨⟨[(2, (.ptr 0 tapi_Msg 0 [])), (5, (.own tapi_Pair 1)), (10, (.dat (.int .i64))), (11, (.dat (.int .i64)))], [.box 155 tapi_Msg (.dat tapi_Msg), .arr 58 tapi_Pair false]⟩, (.exit 0), ⟨[(5, (.own tapi_Pair 0))], [.arr 58 tapi_Pair false]⟩, (.exit 80000000), ⟨[], []⟩⟩
def AS_msg_stamp_apply : Shape := ⟨[(0, (.dat tapi_Msg)), (1, (.dat (.list tapi_Pair)))], []⟩
def AZ_msg_stamp_apply : Shape := ⟨[(0, (.own tapi_Pair 0))], [.arr 58 tapi_Pair false]⟩
def AE_msg_stamp_apply : Ent := ⟨218, AS_msg_stamp_apply, AZ_msg_stamp_apply, msg_stamp_apply⟩
def AF_msg_stamp_apply : Fx := ⟨Acx, lookupG [AE_slices_Clone_api_Pair_api_Pair, AE_span_Has], fun k st => bif Nat.beq k 0 then AL_msg_stamp_apply_0.go (msg_stamp_apply_l0) 0 st else .fail, fun _ => none, 0⟩
theorem msg_stamp_apply_b0_eq (s : AL_msg_stamp_apply_0.S.ty.den) : @Eq (Option (AL_msg_stamp_apply_0.S.ty.den ⊕ AL_msg_stamp_apply_0.Out)) (AL_msg_stamp_apply_0.body AF_msg_stamp_apply (loopAt (bodyOf Tryz.f218) 0) 0 s).val (msg_stamp_apply_b0 s) := by kernel_rfl
theorem msg_stamp_apply_eq (s : AS_msg_stamp_apply.ty.den) : @Eq (Option AZ_msg_stamp_apply.ty.den) (evFn AF_msg_stamp_apply Tryz.f218 AS_msg_stamp_apply AZ_msg_stamp_apply s).val (msg_stamp_apply s) := by kernel_rfl
theorem msg_stamp_apply_hG : GSound Tryz.prog AF_msg_stamp_apply.Γ := ents_sound ⟨slices_Clone_api_Pair_api_Pair_ok, span_Has_ok, trivial⟩
theorem msg_stamp_apply_la0 : LamOK Tryz.prog AF_msg_stamp_apply Tryz.f218.ntmps 0 (loopAt (bodyOf Tryz.f218) 0) :=
  lam_sound Atab msg_stamp_apply_hG Amixed (L := AL_msg_stamp_apply_0) (f := msg_stamp_apply_l0) (b := msg_stamp_apply_b0) (m := []) (fun _ => rfl) (by kernel_rfl) (by kernel_rfl) trivial (by kernel_rfl) msg_stamp_apply_b0_eq
theorem msg_stamp_apply_ok : EntOK Tryz.prog AE_msg_stamp_apply :=
  fun_sound (F := AF_msg_stamp_apply) Atab msg_stamp_apply_hG Amixed (fn := Tryz.f218) (m := [(0, loopAt (bodyOf Tryz.f218) 0)]) Tryz.func218 (by kernel_rfl) (by kernel_rfl) (by kernel_rfl) ⟨msg_stamp_apply_la0, trivial⟩ (by kernel_rfl) msg_stamp_apply_eq
def AS_msg_Apply : Shape := ⟨[(0, (.dat (.list tapi_Pair))), (1, (.dat tapi_Msg))], []⟩
def AZ_msg_Apply : Shape := ⟨[(0, (.dat (.list tapi_Pair)))], []⟩
def AE_msg_Apply : Ent := ⟨80, AS_msg_Apply, AZ_msg_Apply, msg_Apply⟩
noncomputable def AF_msg_Apply : Fx := ⟨Acx, inlG Acx (lookupG []) 104 Tryz.f104 (lookupG [AE_msg_put_apply, AE_msg_del_apply, AE_msg_drop_apply, AE_msg_clone_apply, AE_msg_move_apply, AE_msg_stamp_apply]), fun k st => .fail, fun _ => none, 0⟩
theorem msg_Apply_eq (s : AS_msg_Apply.ty.den) : @Eq (Option AZ_msg_Apply.ty.den) (evFn AF_msg_Apply Tryz.f80 AS_msg_Apply AZ_msg_Apply s).val (msg_Apply s) := by kernel_rfl
theorem msg_Apply_hG : GSound Tryz.prog AF_msg_Apply.Γ := addG_sound (inl_sound (F := ⟨Acx, lookupG [], fun _ _ => .fail, fun _ => none, 0⟩) Atab (ents_sound trivial) Amixed Tryz.func104 (by kernel_rfl) (by kernel_rfl) (by kernel_rfl)) (ents_sound ⟨msg_put_apply_ok, msg_del_apply_ok, msg_drop_apply_ok, msg_clone_apply_ok, msg_move_apply_ok, msg_stamp_apply_ok, trivial⟩)
theorem msg_Apply_ok : EntOK Tryz.prog AE_msg_Apply :=
  fun_sound (F := AF_msg_Apply) Atab msg_Apply_hG Amixed (fn := Tryz.f80) (m := []) Tryz.func80 (by kernel_rfl) (by kernel_rfl) (by kernel_rfl) trivial (by kernel_rfl) msg_Apply_eq
def AL_msg_All_0 : Lp := ⟨⟨[(0, (.dat (.list tapi_Pair))), (7, (.dat (.list tapi_Msg))), (8, (.dat (.int .i64))), (9, (.dat (.int .i64)))], []⟩, (.exit 0), ⟨[(0, (.dat (.list tapi_Pair)))], []⟩, (.exit 80000000), ⟨[], []⟩⟩
def AS_msg_All : Shape := ⟨[(0, (.dat (.list tapi_Pair))), (1, (.dat (.list tapi_Msg)))], []⟩
def AZ_msg_All : Shape := ⟨[(0, (.dat (.list tapi_Pair)))], []⟩
def AE_msg_All : Ent := ⟨59, AS_msg_All, AZ_msg_All, msg_All⟩
def AF_msg_All : Fx := ⟨Acx, lookupG [AE_msg_Apply], fun k st => bif Nat.beq k 0 then AL_msg_All_0.go (msg_All_l0) 0 st else .fail, fun _ => none, 0⟩
theorem msg_All_b0_eq (s : AL_msg_All_0.S.ty.den) : @Eq (Option (AL_msg_All_0.S.ty.den ⊕ AL_msg_All_0.Out)) (AL_msg_All_0.body AF_msg_All (loopAt (bodyOf Tryz.f59) 0) 0 s).val (msg_All_b0 s) := by kernel_rfl
theorem msg_All_eq (s : AS_msg_All.ty.den) : @Eq (Option AZ_msg_All.ty.den) (evFn AF_msg_All Tryz.f59 AS_msg_All AZ_msg_All s).val (msg_All s) := by kernel_rfl
theorem msg_All_hG : GSound Tryz.prog AF_msg_All.Γ := ents_sound ⟨msg_Apply_ok, trivial⟩
theorem msg_All_la0 : LamOK Tryz.prog AF_msg_All Tryz.f59.ntmps 0 (loopAt (bodyOf Tryz.f59) 0) :=
  lam_sound Atab msg_All_hG Amixed (L := AL_msg_All_0) (f := msg_All_l0) (b := msg_All_b0) (m := []) (fun _ => rfl) (by kernel_rfl) (by kernel_rfl) trivial (by kernel_rfl) msg_All_b0_eq
theorem msg_All_ok : EntOK Tryz.prog AE_msg_All :=
  fun_sound (F := AF_msg_All) Atab msg_All_hG Amixed (fn := Tryz.f59) (m := [(0, loopAt (bodyOf Tryz.f59) 0)]) Tryz.func59 (by kernel_rfl) (by kernel_rfl) (by kernel_rfl) ⟨msg_All_la0, trivial⟩ (by kernel_rfl) msg_All_eq
def AS_quota_Allows : Shape := ⟨[(0, (.dat (.list tapi_Pair))), (1, (.dat (.list tapi_Quota))), (2, (.dat (.list tapi_Msg)))], []⟩
def AZ_quota_Allows : Shape := ⟨[(0, (.dat .bool))], []⟩
def AE_quota_Allows : Ent := ⟨23, AS_quota_Allows, AZ_quota_Allows, quota_Allows⟩
def AF_quota_Allows : Fx := ⟨Acx, lookupG [AE_quota_Fits, AE_msg_All], fun k st => .fail, fun _ => none, 0⟩
theorem quota_Allows_eq (s : AS_quota_Allows.ty.den) : @Eq (Option AZ_quota_Allows.ty.den) (evFn AF_quota_Allows Tryz.f23 AS_quota_Allows AZ_quota_Allows s).val (quota_Allows s) := by kernel_rfl
theorem quota_Allows_hG : GSound Tryz.prog AF_quota_Allows.Γ := ents_sound ⟨quota_Fits_ok, msg_All_ok, trivial⟩
theorem quota_Allows_ok : EntOK Tryz.prog AE_quota_Allows :=
  fun_sound (F := AF_quota_Allows) Atab quota_Allows_hG Amixed (fn := Tryz.f23) (m := []) Tryz.func23 (by kernel_rfl) (by kernel_rfl) (by kernel_rfl) trivial (by kernel_rfl) quota_Allows_eq
def AS_strings_HasPrefix : Shape := ⟨[(0, (.dat .str)), (1, (.dat .str))], []⟩
def AZ_strings_HasPrefix : Shape := ⟨[(0, (.dat .bool))], []⟩
def AE_strings_HasPrefix : Ent := ⟨50, AS_strings_HasPrefix, AZ_strings_HasPrefix, strings_HasPrefix⟩
def AF_strings_HasPrefix : Fx := ⟨Acx, lookupG [AE_internal_stringslite_HasPrefix], fun k st => .fail, fun _ => none, 0⟩
theorem strings_HasPrefix_eq (s : AS_strings_HasPrefix.ty.den) : @Eq (Option AZ_strings_HasPrefix.ty.den) (evFn AF_strings_HasPrefix Tryz.f50 AS_strings_HasPrefix AZ_strings_HasPrefix s).val (strings_HasPrefix s) := by kernel_rfl
theorem strings_HasPrefix_hG : GSound Tryz.prog AF_strings_HasPrefix.Γ := ents_sound ⟨internal_stringslite_HasPrefix_ok, trivial⟩
theorem strings_HasPrefix_ok : EntOK Tryz.prog AE_strings_HasPrefix :=
  fun_sound (F := AF_strings_HasPrefix) Atab strings_HasPrefix_hG Amixed (fn := Tryz.f50) (m := []) Tryz.func50 (by kernel_rfl) (by kernel_rfl) (by kernel_rfl) trivial (by kernel_rfl) strings_HasPrefix_eq
def AS_math_bits_Len64 : Shape := ⟨[(0, (.dat (.int .u64)))], []⟩
def AZ_math_bits_Len64 : Shape := ⟨[(0, (.dat (.int .i64)))], []⟩
def AE_math_bits_Len64 : Ent := ⟨102, AS_math_bits_Len64, AZ_math_bits_Len64, math_bits_Len64⟩
def AF_math_bits_Len64 : Fx := ⟨Acx, lookupG [], fun k st => .fail, fun _ => none, 0⟩
theorem math_bits_Len64_eq (s : AS_math_bits_Len64.ty.den) : @Eq (Option AZ_math_bits_Len64.ty.den) (evFn AF_math_bits_Len64 Tryz.f102 AS_math_bits_Len64 AZ_math_bits_Len64 s).val (math_bits_Len64 s) := by kernel_rfl
theorem math_bits_Len64_hG : GSound Tryz.prog AF_math_bits_Len64.Γ := ents_sound trivial
theorem math_bits_Len64_ok : EntOK Tryz.prog AE_math_bits_Len64 :=
  fun_sound (F := AF_math_bits_Len64) Atab math_bits_Len64_hG Amixed (fn := Tryz.f102) (m := []) Tryz.func102 (by kernel_rfl) (by kernel_rfl) (by kernel_rfl) trivial (by kernel_rfl) math_bits_Len64_eq
def AS_math_bits_Len : Shape := ⟨[(0, (.dat (.int .u64)))], []⟩
def AZ_math_bits_Len : Shape := ⟨[(0, (.dat (.int .i64)))], []⟩
def AE_math_bits_Len : Ent := ⟨77, AS_math_bits_Len, AZ_math_bits_Len, math_bits_Len⟩
def AF_math_bits_Len : Fx := ⟨Acx, lookupG [AE_math_bits_Len64], fun k st => .fail, fun _ => none, 0⟩
theorem math_bits_Len_eq (s : AS_math_bits_Len.ty.den) : @Eq (Option AZ_math_bits_Len.ty.den) (evFn AF_math_bits_Len Tryz.f77 AS_math_bits_Len AZ_math_bits_Len s).val (math_bits_Len s) := by kernel_rfl
theorem math_bits_Len_hG : GSound Tryz.prog AF_math_bits_Len.Γ := ents_sound ⟨math_bits_Len64_ok, trivial⟩
theorem math_bits_Len_ok : EntOK Tryz.prog AE_math_bits_Len :=
  fun_sound (F := AF_math_bits_Len) Atab math_bits_Len_hG Amixed (fn := Tryz.f77) (m := []) Tryz.func77 (by kernel_rfl) (by kernel_rfl) (by kernel_rfl) trivial (by kernel_rfl) math_bits_Len_eq
def AS_cmp_isNaN_string : Shape := ⟨[(0, (.dat .str))], []⟩
def AZ_cmp_isNaN_string : Shape := ⟨[(0, (.dat .bool))], []⟩
def AE_cmp_isNaN_string : Ent := ⟨103, AS_cmp_isNaN_string, AZ_cmp_isNaN_string, cmp_isNaN_string⟩
def AF_cmp_isNaN_string : Fx := ⟨Acx, lookupG [], fun k st => .fail, fun _ => none, 0⟩
theorem cmp_isNaN_string_eq (s : AS_cmp_isNaN_string.ty.den) : @Eq (Option AZ_cmp_isNaN_string.ty.den) (evFn AF_cmp_isNaN_string Tryz.f103 AS_cmp_isNaN_string AZ_cmp_isNaN_string s).val (cmp_isNaN_string s) := by kernel_rfl
theorem cmp_isNaN_string_hG : GSound Tryz.prog AF_cmp_isNaN_string.Γ := ents_sound trivial
theorem cmp_isNaN_string_ok : EntOK Tryz.prog AE_cmp_isNaN_string :=
  fun_sound (F := AF_cmp_isNaN_string) Atab cmp_isNaN_string_hG Amixed (fn := Tryz.f103) (m := []) Tryz.func103 (by kernel_rfl) (by kernel_rfl) (by kernel_rfl) trivial (by kernel_rfl) cmp_isNaN_string_eq
def AS_cmp_Compare_string : Shape := ⟨[(0, (.dat .str)), (1, (.dat .str))], []⟩
def AZ_cmp_Compare_string : Shape := ⟨[(0, (.dat (.int .i64)))], []⟩
def AE_cmp_Compare_string : Ent := ⟨78, AS_cmp_Compare_string, AZ_cmp_Compare_string, cmp_Compare_string⟩
def AF_cmp_Compare_string : Fx := ⟨Acx, lookupG [AE_cmp_isNaN_string], fun k st => .fail, fun _ => none, 0⟩
theorem cmp_Compare_string_eq (s : AS_cmp_Compare_string.ty.den) : @Eq (Option AZ_cmp_Compare_string.ty.den) (evFn AF_cmp_Compare_string Tryz.f78 AS_cmp_Compare_string AZ_cmp_Compare_string s).val (cmp_Compare_string s) := by kernel_rfl
theorem cmp_Compare_string_hG : GSound Tryz.prog AF_cmp_Compare_string.Γ := ents_sound ⟨cmp_isNaN_string_ok, trivial⟩
theorem cmp_Compare_string_ok : EntOK Tryz.prog AE_cmp_Compare_string :=
  fun_sound (F := AF_cmp_Compare_string) Atab cmp_Compare_string_hG Amixed (fn := Tryz.f78) (m := []) Tryz.func78 (by kernel_rfl) (by kernel_rfl) (by kernel_rfl) trivial (by kernel_rfl) cmp_Compare_string_eq
def AS_quota_byPath : Shape := ⟨[(0, (.dat tapi_Quota)), (1, (.dat tapi_Quota))], []⟩
def AZ_quota_byPath : Shape := ⟨[(0, (.dat (.int .i64)))], []⟩
def AE_quota_byPath : Ent := ⟨53, AS_quota_byPath, AZ_quota_byPath, quota_byPath⟩
def AF_quota_byPath : Fx := ⟨Acx, lookupG [AE_cmp_Compare_string], fun k st => .fail, fun _ => none, 0⟩
theorem quota_byPath_eq (s : AS_quota_byPath.ty.den) : @Eq (Option AZ_quota_byPath.ty.den) (evFn AF_quota_byPath Tryz.f53 AS_quota_byPath AZ_quota_byPath s).val (quota_byPath s) := by kernel_rfl
theorem quota_byPath_hG : GSound Tryz.prog AF_quota_byPath.Γ := ents_sound ⟨cmp_Compare_string_ok, trivial⟩
theorem quota_byPath_ok : EntOK Tryz.prog AE_quota_byPath :=
  fun_sound (F := AF_quota_byPath) Atab quota_byPath_hG Amixed (fn := Tryz.f53) (m := []) Tryz.func53 (by kernel_rfl) (by kernel_rfl) (by kernel_rfl) trivial (by kernel_rfl) quota_byPath_eq
def AL_slices_insertionSortCmpFunc_api_Quota_1 : Lp := ⟨⟨[(0, (.own tapi_Quota 0)), (1, (.dat (.int .i64))), (2, (.dat (.int .i64))), (3, (.fn 53 [] [])), (8, (.dat (.int .i64))), (9, (.dat (.int .i64)))], [.arr 45 tapi_Quota false]⟩, (.exit 2), ⟨[(0, (.own tapi_Quota 0)), (1, (.dat (.int .i64))), (2, (.dat (.int .i64))), (3, (.fn 53 [] [])), (8, (.dat (.int .i64)))], [.arr 45 tapi_Quota false]⟩, (.exit 80000002), ⟨[], []⟩⟩
def AL_slices_insertionSortCmpFunc_api_Quota_0 : Lp := ⟨⟨[(0, (.own tapi_Quota 0)), (1, (.dat (.int .i64))), (2, (.dat (.int .i64))), (3, (.fn 53 [] [])), (8, (.dat (.int .i64)))], [.arr 45 tapi_Quota false]⟩, (.exit 0), ⟨[], [.arr 45 tapi_Quota false]⟩, (.exit 80000000), ⟨[], []⟩⟩
def AS_slices_insertionSortCmpFunc_api_Quota : Shape := ⟨[(0, (.own tapi_Quota 0)), (1, (.dat (.int .i64))), (2, (.dat (.int .i64))), (3, (.fn 53 [] []))], [.arr 45 tapi_Quota false]⟩
def AZ_slices_insertionSortCmpFunc_api_Quota : Shape := ⟨[], [.arr 45 tapi_Quota false]⟩
def AE_slices_insertionSortCmpFunc_api_Quota : Ent := ⟨93, AS_slices_insertionSortCmpFunc_api_Quota, AZ_slices_insertionSortCmpFunc_api_Quota, slices_insertionSortCmpFunc_api_Quota⟩
def AF_slices_insertionSortCmpFunc_api_Quota : Fx := ⟨Acx, lookupG [AE_quota_byPath], fun k st => bif Nat.beq k 2 then AL_slices_insertionSortCmpFunc_api_Quota_1.go (slices_insertionSortCmpFunc_api_Quota_l1) 1 st else bif Nat.beq k 0 then AL_slices_insertionSortCmpFunc_api_Quota_0.go (slices_insertionSortCmpFunc_api_Quota_l0) 1 st else .fail, fun _ => none, 1⟩
theorem slices_insertionSortCmpFunc_api_Quota_b1_eq (s : AL_slices_insertionSortCmpFunc_api_Quota_1.S.ty.den) : @Eq (Option (AL_slices_insertionSortCmpFunc_api_Quota_1.S.ty.den ⊕ AL_slices_insertionSortCmpFunc_api_Quota_1.Out)) (AL_slices_insertionSortCmpFunc_api_Quota_1.body AF_slices_insertionSortCmpFunc_api_Quota (loopAt (bodyOf Tryz.f93) 1) 2 s).val (slices_insertionSortCmpFunc_api_Quota_b1 s) := by kernel_rfl
theorem slices_insertionSortCmpFunc_api_Quota_b0_eq (s : AL_slices_insertionSortCmpFunc_api_Quota_0.S.ty.den) : @Eq (Option (AL_slices_insertionSortCmpFunc_api_Quota_0.S.ty.den ⊕ AL_slices_insertionSortCmpFunc_api_Quota_0.Out)) (AL_slices_insertionSortCmpFunc_api_Quota_0.body AF_slices_insertionSortCmpFunc_api_Quota (loopAt (bodyOf Tryz.f93) 0) 0 s).val (slices_insertionSortCmpFunc_api_Quota_b0 s) := by kernel_rfl
theorem slices_insertionSortCmpFunc_api_Quota_eq (s : AS_slices_insertionSortCmpFunc_api_Quota.ty.den) : @Eq (Option AZ_slices_insertionSortCmpFunc_api_Quota.ty.den) (evFn AF_slices_insertionSortCmpFunc_api_Quota Tryz.f93 AS_slices_insertionSortCmpFunc_api_Quota AZ_slices_insertionSortCmpFunc_api_Quota s).val (slices_insertionSortCmpFunc_api_Quota s) := by kernel_rfl
theorem slices_insertionSortCmpFunc_api_Quota_hG : GSound Tryz.prog AF_slices_insertionSortCmpFunc_api_Quota.Γ := ents_sound ⟨quota_byPath_ok, trivial⟩
theorem slices_insertionSortCmpFunc_api_Quota_la1 : LamOK Tryz.prog AF_slices_insertionSortCmpFunc_api_Quota Tryz.f93.ntmps 2 (loopAt (bodyOf Tryz.f93) 1) :=
  lam_sound Atab slices_insertionSortCmpFunc_api_Quota_hG Amixed (L := AL_slices_insertionSortCmpFunc_api_Quota_1) (f := slices_insertionSortCmpFunc_api_Quota_l1) (b := slices_insertionSortCmpFunc_api_Quota_b1) (m := []) (fun _ => rfl) (by kernel_rfl) (by kernel_rfl) trivial (by kernel_rfl) slices_insertionSortCmpFunc_api_Quota_b1_eq
theorem slices_insertionSortCmpFunc_api_Quota_la0 : LamOK Tryz.prog AF_slices_insertionSortCmpFunc_api_Quota Tryz.f93.ntmps 0 (loopAt (bodyOf Tryz.f93) 0) :=
  lam_sound Atab slices_insertionSortCmpFunc_api_Quota_hG Amixed (L := AL_slices_insertionSortCmpFunc_api_Quota_0) (f := slices_insertionSortCmpFunc_api_Quota_l0) (b := slices_insertionSortCmpFunc_api_Quota_b0) (m := [(2, loopAt (bodyOf Tryz.f93) 1)]) (fun _ => rfl) (by kernel_rfl) (by kernel_rfl) ⟨slices_insertionSortCmpFunc_api_Quota_la1, trivial⟩ (by kernel_rfl) slices_insertionSortCmpFunc_api_Quota_b0_eq
theorem slices_insertionSortCmpFunc_api_Quota_ok : EntOK Tryz.prog AE_slices_insertionSortCmpFunc_api_Quota :=
  fun_sound (F := AF_slices_insertionSortCmpFunc_api_Quota) Atab slices_insertionSortCmpFunc_api_Quota_hG Amixed (fn := Tryz.f93) (m := [(0, loopAt (bodyOf Tryz.f93) 0), (2, loopAt (bodyOf Tryz.f93) 1)]) Tryz.func93 (by kernel_rfl) (by kernel_rfl) (by kernel_rfl) ⟨slices_insertionSortCmpFunc_api_Quota_la0, slices_insertionSortCmpFunc_api_Quota_la1, trivial⟩ (by kernel_rfl) slices_insertionSortCmpFunc_api_Quota_eq
def AL_slices_siftDownCmpFunc_api_Quota_0 : Lp := ⟨⟨[(0, (.own tapi_Quota 0)), (2, (.dat (.int .i64))), (3, (.dat (.int .i64))), (4, (.fn 53 [] [])), (10, (.dat (.int .i64)))], [.arr 45 tapi_Quota false]⟩, (.exit 0), ⟨[], [.arr 45 tapi_Quota false]⟩, .ret, ⟨[], [.arr 45 tapi_Quota false]⟩⟩
def AS_slices_siftDownCmpFunc_api_Quota : Shape := ⟨[(0, (.own tapi_Quota 0)), (1, (.dat (.int .i64))), (2, (.dat (.int .i64))), (3, (.dat (.int .i64))), (4, (.fn 53 [] []))], [.arr 45 tapi_Quota false]⟩
def AZ_slices_siftDownCmpFunc_api_Quota : Shape := ⟨[], [.arr 45 tapi_Quota false]⟩
def AE_slices_siftDownCmpFunc_api_Quota : Ent := ⟨113, AS_slices_siftDownCmpFunc_api_Quota, AZ_slices_siftDownCmpFunc_api_Quota, slices_siftDownCmpFunc_api_Quota⟩
def AF_slices_siftDownCmpFunc_api_Quota : Fx := ⟨Acx, lookupG [AE_quota_byPath], fun k st => bif Nat.beq k 0 then AL_slices_siftDownCmpFunc_api_Quota_0.go (slices_siftDownCmpFunc_api_Quota_l0) 1 st else .fail, fun _ => none, 1⟩
theorem slices_siftDownCmpFunc_api_Quota_b0_eq (s : AL_slices_siftDownCmpFunc_api_Quota_0.S.ty.den) : @Eq (Option (AL_slices_siftDownCmpFunc_api_Quota_0.S.ty.den ⊕ AL_slices_siftDownCmpFunc_api_Quota_0.Out)) (AL_slices_siftDownCmpFunc_api_Quota_0.body AF_slices_siftDownCmpFunc_api_Quota (loopAt (bodyOf Tryz.f113) 0) 0 s).val (slices_siftDownCmpFunc_api_Quota_b0 s) := by kernel_rfl
theorem slices_siftDownCmpFunc_api_Quota_eq (s : AS_slices_siftDownCmpFunc_api_Quota.ty.den) : @Eq (Option AZ_slices_siftDownCmpFunc_api_Quota.ty.den) (evFn AF_slices_siftDownCmpFunc_api_Quota Tryz.f113 AS_slices_siftDownCmpFunc_api_Quota AZ_slices_siftDownCmpFunc_api_Quota s).val (slices_siftDownCmpFunc_api_Quota s) := by kernel_rfl
theorem slices_siftDownCmpFunc_api_Quota_hG : GSound Tryz.prog AF_slices_siftDownCmpFunc_api_Quota.Γ := ents_sound ⟨quota_byPath_ok, trivial⟩
theorem slices_siftDownCmpFunc_api_Quota_la0 : LamOK Tryz.prog AF_slices_siftDownCmpFunc_api_Quota Tryz.f113.ntmps 0 (loopAt (bodyOf Tryz.f113) 0) :=
  lam_sound Atab slices_siftDownCmpFunc_api_Quota_hG Amixed (L := AL_slices_siftDownCmpFunc_api_Quota_0) (f := slices_siftDownCmpFunc_api_Quota_l0) (b := slices_siftDownCmpFunc_api_Quota_b0) (m := []) (fun _ => rfl) (by kernel_rfl) (by kernel_rfl) trivial (by kernel_rfl) slices_siftDownCmpFunc_api_Quota_b0_eq
theorem slices_siftDownCmpFunc_api_Quota_ok : EntOK Tryz.prog AE_slices_siftDownCmpFunc_api_Quota :=
  fun_sound (F := AF_slices_siftDownCmpFunc_api_Quota) Atab slices_siftDownCmpFunc_api_Quota_hG Amixed (fn := Tryz.f113) (m := [(0, loopAt (bodyOf Tryz.f113) 0)]) Tryz.func113 (by kernel_rfl) (by kernel_rfl) (by kernel_rfl) ⟨slices_siftDownCmpFunc_api_Quota_la0, trivial⟩ (by kernel_rfl) slices_siftDownCmpFunc_api_Quota_eq
def AL_slices_heapSortCmpFunc_api_Quota_0 : Lp := ⟨⟨[(0, (.own tapi_Quota 0)), (3, (.fn 53 [] [])), (8, (.dat (.int .i64))), (9, (.dat (.int .i64))), (10, (.dat (.int .i64))), (11, (.dat (.int .i64)))], [.arr 45 tapi_Quota false]⟩, (.exit 0), ⟨[(0, (.own tapi_Quota 0)), (3, (.fn 53 [] [])), (8, (.dat (.int .i64))), (9, (.dat (.int .i64))), (10, (.dat (.int .i64)))], [.arr 45 tapi_Quota false]⟩, (.exit 80000000), ⟨[], []⟩⟩
def AL_slices_heapSortCmpFunc_api_Quota_1 : Lp := ⟨⟨[(0, (.own tapi_Quota 0)), (3, (.fn 53 [] [])), (8, (.dat (.int .i64))), (9, (.dat (.int .i64))), (12, (.dat (.int .i64)))], [.arr 45 tapi_Quota false]⟩, (.exit 2), ⟨[], [.arr 45 tapi_Quota false]⟩, (.exit 80000002), ⟨[], []⟩⟩
def AS_slices_heapSortCmpFunc_api_Quota : Shape := ⟨[(0, (.own tapi_Quota 0)), (1, (.dat (.int .i64))), (2, (.dat (.int .i64))), (3, (.fn 53 [] []))], [.arr 45 tapi_Quota false]⟩
def AZ_slices_heapSortCmpFunc_api_Quota : Shape := ⟨[], [.arr 45 tapi_Quota false]⟩
def AE_slices_heapSortCmpFunc_api_Quota : Ent := ⟨94, AS_slices_heapSortCmpFunc_api_Quota, AZ_slices_heapSortCmpFunc_api_Quota, slices_heapSortCmpFunc_api_Quota⟩
def AF_slices_heapSortCmpFunc_api_Quota : Fx := ⟨Acx, lookupG [AE_quota_byPath, AE_slices_siftDownCmpFunc_api_Quota], fun k st => bif Nat.beq k 0 then AL_slices_heapSortCmpFunc_api_Quota_0.go (slices_heapSortCmpFunc_api_Quota_l0) 1 st else bif Nat.beq k 2 then AL_slices_heapSortCmpFunc_api_Quota_1.go (slices_heapSortCmpFunc_api_Quota_l1) 1 st else .fail, fun _ => none, 1⟩
theorem slices_heapSortCmpFunc_api_Quota_b0_eq (s : AL_slices_heapSortCmpFunc_api_Quota_0.S.ty.den) : @Eq (Option (AL_slices_heapSortCmpFunc_api_Quota_0.S.ty.den ⊕ AL_slices_heapSortCmpFunc_api_Quota_0.Out)) (AL_slices_heapSortCmpFunc_api_Quota_0.body AF_slices_heapSortCmpFunc_api_Quota (loopAt (bodyOf Tryz.f94) 0) 0 s).val (slices_heapSortCmpFunc_api_Quota_b0 s) := by kernel_rfl
theorem slices_heapSortCmpFunc_api_Quota_b1_eq (s : AL_slices_heapSortCmpFunc_api_Quota_1.S.ty.den) : @Eq (Option (AL_slices_heapSortCmpFunc_api_Quota_1.S.ty.den ⊕ AL_slices_heapSortCmpFunc_api_Quota_1.Out)) (AL_slices_heapSortCmpFunc_api_Quota_1.body AF_slices_heapSortCmpFunc_api_Quota (loopAt (bodyOf Tryz.f94) 1) 2 s).val (slices_heapSortCmpFunc_api_Quota_b1 s) := by kernel_rfl
theorem slices_heapSortCmpFunc_api_Quota_eq (s : AS_slices_heapSortCmpFunc_api_Quota.ty.den) : @Eq (Option AZ_slices_heapSortCmpFunc_api_Quota.ty.den) (evFn AF_slices_heapSortCmpFunc_api_Quota Tryz.f94 AS_slices_heapSortCmpFunc_api_Quota AZ_slices_heapSortCmpFunc_api_Quota s).val (slices_heapSortCmpFunc_api_Quota s) := by kernel_rfl
theorem slices_heapSortCmpFunc_api_Quota_hG : GSound Tryz.prog AF_slices_heapSortCmpFunc_api_Quota.Γ := ents_sound ⟨quota_byPath_ok, slices_siftDownCmpFunc_api_Quota_ok, trivial⟩
theorem slices_heapSortCmpFunc_api_Quota_la0 : LamOK Tryz.prog AF_slices_heapSortCmpFunc_api_Quota Tryz.f94.ntmps 0 (loopAt (bodyOf Tryz.f94) 0) :=
  lam_sound Atab slices_heapSortCmpFunc_api_Quota_hG Amixed (L := AL_slices_heapSortCmpFunc_api_Quota_0) (f := slices_heapSortCmpFunc_api_Quota_l0) (b := slices_heapSortCmpFunc_api_Quota_b0) (m := []) (fun _ => rfl) (by kernel_rfl) (by kernel_rfl) trivial (by kernel_rfl) slices_heapSortCmpFunc_api_Quota_b0_eq
theorem slices_heapSortCmpFunc_api_Quota_la1 : LamOK Tryz.prog AF_slices_heapSortCmpFunc_api_Quota Tryz.f94.ntmps 2 (loopAt (bodyOf Tryz.f94) 1) :=
  lam_sound Atab slices_heapSortCmpFunc_api_Quota_hG Amixed (L := AL_slices_heapSortCmpFunc_api_Quota_1) (f := slices_heapSortCmpFunc_api_Quota_l1) (b := slices_heapSortCmpFunc_api_Quota_b1) (m := []) (fun _ => rfl) (by kernel_rfl) (by kernel_rfl) trivial (by kernel_rfl) slices_heapSortCmpFunc_api_Quota_b1_eq
theorem slices_heapSortCmpFunc_api_Quota_ok : EntOK Tryz.prog AE_slices_heapSortCmpFunc_api_Quota :=
  fun_sound (F := AF_slices_heapSortCmpFunc_api_Quota) Atab slices_heapSortCmpFunc_api_Quota_hG Amixed (fn := Tryz.f94) (m := [(0, loopAt (bodyOf Tryz.f94) 0), (2, loopAt (bodyOf Tryz.f94) 1)]) Tryz.func94 (by kernel_rfl) (by kernel_rfl) (by kernel_rfl) ⟨slices_heapSortCmpFunc_api_Quota_la0, slices_heapSortCmpFunc_api_Quota_la1, trivial⟩ (by kernel_rfl) slices_heapSortCmpFunc_api_Quota_eq
def AS_slices_order2CmpFunc_api_Quota : Shape := ⟨[(0, (.own tapi_Quota 0)), (1, (.dat (.int .i64))), (2, (.dat (.int .i64))), (3, (.ptr 1 (.int .i64) 0 [])), (4, (.fn 53 [] []))], [.arr 45 tapi_Quota false, .box 3 (.int .i64) (.dat (.int .i64))]⟩
def AZ_slices_order2CmpFunc_api_Quota : Shape := ⟨[(0, (.dat (.int .i64))), (1, (.dat (.int .i64)))], [.arr 45 tapi_Quota false, .box 3 (.int .i64) (.dat (.int .i64))]⟩
def AE_slices_order2CmpFunc_api_Quota : Ent := ⟨127, AS_slices_order2CmpFunc_api_Quota, AZ_slices_order2CmpFunc_api_Quota, slices_order2CmpFunc_api_Quota⟩
def AF_slices_order2CmpFunc_api_Quota : Fx := ⟨Acx, lookupG [AE_quota_byPath], fun k st => .fail, fun _ => none, 2⟩
theorem slices_order2CmpFunc_api_Quota_eq (s : AS_slices_order2CmpFunc_api_Quota.ty.den) : @Eq (Option AZ_slices_order2CmpFunc_api_Quota.ty.den) (evFn AF_slices_order2CmpFunc_api_Quota Tryz.f127 AS_slices_order2CmpFunc_api_Quota AZ_slices_order2CmpFunc_api_Quota s).val (slices_order2CmpFunc_api_Quota s) := by kernel_rfl
theorem slices_order2CmpFunc_api_Quota_hG : GSound Tryz.prog AF_slices_order2CmpFunc_api_Quota.Γ := ents_sound ⟨quota_byPath_ok, trivial⟩
theorem slices_order2CmpFunc_api_Quota_ok : EntOK Tryz.prog AE_slices_order2CmpFunc_api_Quota :=
  fun_sound (F := AF_slices_order2CmpFunc_api_Quota) Atab slices_order2CmpFunc_api_Quota_hG Amixed (fn := Tryz.f127) (m := []) Tryz.func127 (by kernel_rfl) (by kernel_rfl) (by kernel_rfl) trivial (by kernel_rfl) slices_order2CmpFunc_api_Quota_eq
def AS_slices_medianCmpFunc_api_Quota : Shape := ⟨[(0, (.own tapi_Quota 0)), (1, (.dat (.int .i64))), (2, (.dat (.int .i64))), (3, (.dat (.int .i64))), (4, (.ptr 1 (.int .i64) 0 [])), (5, (.fn 53 [] []))], [.arr 45 tapi_Quota false, .box 3 (.int .i64) (.dat (.int .i64))]⟩
def AZ_slices_medianCmpFunc_api_Quota : Shape := ⟨[(0, (.dat (.int .i64)))], [.arr 45 tapi_Quota false, .box 3 (.int .i64) (.dat (.int .i64))]⟩
def AE_slices_medianCmpFunc_api_Quota : Ent := ⟨117, AS_slices_medianCmpFunc_api_Quota, AZ_slices_medianCmpFunc_api_Quota, slices_medianCmpFunc_api_Quota⟩
def AF_slices_medianCmpFunc_api_Quota : Fx := ⟨Acx, lookupG [AE_quota_byPath, AE_slices_order2CmpFunc_api_Quota], fun k st => .fail, fun _ => none, 2⟩
theorem slices_medianCmpFunc_api_Quota_eq (s : AS_slices_medianCmpFunc_api_Quota.ty.den) : @Eq (Option AZ_slices_medianCmpFunc_api_Quota.ty.den) (evFn AF_slices_medianCmpFunc_api_Quota Tryz.f117 AS_slices_medianCmpFunc_api_Quota AZ_slices_medianCmpFunc_api_Quota s).val (slices_medianCmpFunc_api_Quota s) := by kernel_rfl
theorem slices_medianCmpFunc_api_Quota_hG : GSound Tryz.prog AF_slices_medianCmpFunc_api_Quota.Γ := ents_sound ⟨quota_byPath_ok, slices_order2CmpFunc_api_Quota_ok, trivial⟩
theorem slices_medianCmpFunc_api_Quota_ok : EntOK Tryz.prog AE_slices_medianCmpFunc_api_Quota :=
  fun_sound (F := AF_slices_medianCmpFunc_api_Quota) Atab slices_medianCmpFunc_api_Quota_hG Amixed (fn := Tryz.f117) (m := []) Tryz.func117 (by kernel_rfl) (by kernel_rfl) (by kernel_rfl) trivial (by kernel_rfl) slices_medianCmpFunc_api_Quota_eq
def AS_slices_medianAdjacentCmpFunc_api_Quota : Shape := ⟨[(0, (.own tapi_Quota 0)), (1, (.dat (.int .i64))), (2, (.ptr 1 (.int .i64) 0 [])), (3, (.fn 53 [] []))], [.arr 45 tapi_Quota false, .box 3 (.int .i64) (.dat (.int .i64))]⟩
def AZ_slices_medianAdjacentCmpFunc_api_Quota : Shape := ⟨[(0, (.dat (.int .i64)))], [.arr 45 tapi_Quota false, .box 3 (.int .i64) (.dat (.int .i64))]⟩
def AE_slices_medianAdjacentCmpFunc_api_Quota : Ent := ⟨116, AS_slices_medianAdjacentCmpFunc_api_Quota, AZ_slices_medianAdjacentCmpFunc_api_Quota, slices_medianAdjacentCmpFunc_api_Quota⟩
def AF_slices_medianAdjacentCmpFunc_api_Quota : Fx := ⟨Acx, lookupG [AE_quota_byPath, AE_slices_medianCmpFunc_api_Quota], fun k st => .fail, fun _ => none, 2⟩
theorem slices_medianAdjacentCmpFunc_api_Quota_eq (s : AS_slices_medianAdjacentCmpFunc_api_Quota.ty.den) : @Eq (Option AZ_slices_medianAdjacentCmpFunc_api_Quota.ty.den) (evFn AF_slices_medianAdjacentCmpFunc_api_Quota Tryz.f116 AS_slices_medianAdjacentCmpFunc_api_Quota AZ_slices_medianAdjacentCmpFunc_api_Quota s).val (slices_medianAdjacentCmpFunc_api_Quota s) := by kernel_rfl
theorem slices_medianAdjacentCmpFunc_api_Quota_hG : GSound Tryz.prog AF_slices_medianAdjacentCmpFunc_api_Quota.Γ := ents_sound ⟨quota_byPath_ok, slices_medianCmpFunc_api_Quota_ok, trivial⟩
theorem slices_medianAdjacentCmpFunc_api_Quota_ok : EntOK Tryz.prog AE_slices_medianAdjacentCmpFunc_api_Quota :=
  fun_sound (F := AF_slices_medianAdjacentCmpFunc_api_Quota) Atab slices_medianAdjacentCmpFunc_api_Quota_hG Amixed (fn := Tryz.f116) (m := []) Tryz.func116 (by kernel_rfl) (by kernel_rfl) (by kernel_rfl) trivial (by kernel_rfl) slices_medianAdjacentCmpFunc_api_Quota_eq
def AS_slices_choosePivotCmpFunc_api_Quota : Shape := ⟨[(0, (.own tapi_Quota 0)), (1, (.dat (.int .i64))), (2, (.dat (.int .i64))), (3, (.fn 53 [] []))], [.arr 45 tapi_Quota false]⟩
def AZ_slices_choosePivotCmpFunc_api_Quota : Shape := ⟨[(0, (.dat (.int .i64))), (1, (.dat (.int .i64)))], [.arr 45 tapi_Quota false]⟩
def AE_slices_choosePivotCmpFunc_api_Quota : Ent := ⟨96, AS_slices_choosePivotCmpFunc_api_Quota, AZ_slices_choosePivotCmpFunc_api_Quota, slices_choosePivotCmpFunc_api_Quota⟩
def AF_slices_choosePivotCmpFunc_api_Quota : Fx := ⟨Acx, lookupG [AE_quota_byPath, AE_slices_medianCmpFunc_api_Quota, AE_slices_medianAdjacentCmpFunc_api_Quota], fun k st => .fail, fun _ => none, 1⟩
theorem slices_choosePivotCmpFunc_api_Quota_eq (s : AS_slices_choosePivotCmpFunc_api_Quota.ty.den) : @Eq (Option AZ_slices_choosePivotCmpFunc_api_Quota.ty.den) (evFn AF_slices_choosePivotCmpFunc_api_Quota Tryz.f96 AS_slices_choosePivotCmpFunc_api_Quota AZ_slices_choosePivotCmpFunc_api_Quota s).val (slices_choosePivotCmpFunc_api_Quota s) := by kernel_rfl
theorem slices_choosePivotCmpFunc_api_Quota_hG : GSound Tryz.prog AF_slices_choosePivotCmpFunc_api_Quota.Γ := ents_sound ⟨quota_byPath_ok, slices_medianCmpFunc_api_Quota_ok, slices_medianAdjacentCmpFunc_api_Quota_ok, trivial⟩
theorem slices_choosePivotCmpFunc_api_Quota_ok : EntOK Tryz.prog AE_slices_choosePivotCmpFunc_api_Quota :=
  fun_sound (F := AF_slices_choosePivotCmpFunc_api_Quota) Atab slices_choosePivotCmpFunc_api_Quota_hG Amixed (fn := Tryz.f96) (m := []) Tryz.func96 (by kernel_rfl) (by kernel_rfl) (by kernel_rfl) trivial (by kernel_rfl) slices_choosePivotCmpFunc_api_Quota_eq
def AL_slices_reverseRangeCmpFunc_api_Quota_0 : Lp := ⟨⟨[(0, (.own tapi_Quota 0)), (8, (.dat (.int .i64))), (9, (.dat (.int .i64)))], [.arr 45 tapi_Quota false]⟩, (.exit 0), ⟨[], [.arr 45 tapi_Quota false]⟩, (.exit 80000000), ⟨[], []⟩⟩
def AS_slices_reverseRangeCmpFunc_api_Quota : Shape := ⟨[(0, (.own tapi_Quota 0)), (1, (.dat (.int .i64))), (2, (.dat (.int .i64))), (3, (.fn 53 [] []))], [.arr 45 tapi_Quota false]⟩
def AZ_slices_reverseRangeCmpFunc_api_Quota : Shape := ⟨[], [.arr 45 tapi_Quota false]⟩
def AE_slices_reverseRangeCmpFunc_api_Quota : Ent := ⟨97, AS_slices_reverseRangeCmpFunc_api_Quota, AZ_slices_reverseRangeCmpFunc_api_Quota, slices_reverseRangeCmpFunc_api_Quota⟩
def AF_slices_reverseRangeCmpFunc_api_Quota : Fx := ⟨Acx, lookupG [AE_quota_byPath], fun k st => bif Nat.beq k 0 then AL_slices_reverseRangeCmpFunc_api_Quota_0.go (slices_reverseRangeCmpFunc_api_Quota_l0) 1 st else .fail, fun _ => none, 1⟩
theorem slices_reverseRangeCmpFunc_api_Quota_b0_eq (s : AL_slices_reverseRangeCmpFunc_api_Quota_0.S.ty.den) : @Eq (Option (AL_slices_reverseRangeCmpFunc_api_Quota_0.S.ty.den ⊕ AL_slices_reverseRangeCmpFunc_api_Quota_0.Out)) (AL_slices_reverseRangeCmpFunc_api_Quota_0.body AF_slices_reverseRangeCmpFunc_api_Quota (loopAt (bodyOf Tryz.f97) 0) 0 s).val (slices_reverseRangeCmpFunc_api_Quota_b0 s) := by kernel_rfl
theorem slices_reverseRangeCmpFunc_api_Quota_eq (s : AS_slices_reverseRangeCmpFunc_api_Quota.ty.den) : @Eq (Option AZ_slices_reverseRangeCmpFunc_api_Quota.ty.den) (evFn AF_slices_reverseRangeCmpFunc_api_Quota Tryz.f97 AS_slices_reverseRangeCmpFunc_api_Quota AZ_slices_reverseRangeCmpFunc_api_Quota s).val (slices_reverseRangeCmpFunc_api_Quota s) := by kernel_rfl
theorem slices_reverseRangeCmpFunc_api_Quota_hG : GSound Tryz.prog AF_slices_reverseRangeCmpFunc_api_Quota.Γ := ents_sound ⟨quota_byPath_ok, trivial⟩
theorem slices_reverseRangeCmpFunc_api_Quota_la0 : LamOK Tryz.prog AF_slices_reverseRangeCmpFunc_api_Quota Tryz.f97.ntmps 0 (loopAt (bodyOf Tryz.f97) 0) :=
  lam_sound Atab slices_reverseRangeCmpFunc_api_Quota_hG Amixed (L := AL_slices_reverseRangeCmpFunc_api_Quota_0) (f := slices_reverseRangeCmpFunc_api_Quota_l0) (b := slices_reverseRangeCmpFunc_api_Quota_b0) (m := []) (fun _ => rfl) (by kernel_rfl) (by kernel_rfl) trivial (by kernel_rfl) slices_reverseRangeCmpFunc_api_Quota_b0_eq
theorem slices_reverseRangeCmpFunc_api_Quota_ok : EntOK Tryz.prog AE_slices_reverseRangeCmpFunc_api_Quota :=
  fun_sound (F := AF_slices_reverseRangeCmpFunc_api_Quota) Atab slices_reverseRangeCmpFunc_api_Quota_hG Amixed (fn := Tryz.f97) (m := [(0, loopAt (bodyOf Tryz.f97) 0)]) Tryz.func97 (by kernel_rfl) (by kernel_rfl) (by kernel_rfl) ⟨slices_reverseRangeCmpFunc_api_Quota_la0, trivial⟩ (by kernel_rfl) slices_reverseRangeCmpFunc_api_Quota_eq
def AL_slices_partialInsertionSortCmpFunc_api_Quota_1 : Lp := ⟨⟨[(0, (.own tapi_Quota 0)), (1, (.dat (.int .i64))), (2, (.dat (.int .i64))), (3, (.fn 53 [] [])), (9, (.dat (.int .i64))), (10, (.dat (.int .i64)))], [.arr 45 tapi_Quota false]⟩, (.exit 2), ⟨[(0, (.own tapi_Quota 0)), (1, (.dat (.int .i64))), (2, (.dat (.int .i64))), (3, (.fn 53 [] [])), (9, (.dat (.int .i64))), (10, (.dat (.int .i64)))], [.arr 45 tapi_Quota false]⟩, (.exit 80000002), ⟨[], []⟩⟩
def AL_slices_partialInsertionSortCmpFunc_api_Quota_2 : Lp := ⟨⟨[(0, (.own tapi_Quota 0)), (1, (.dat (.int .i64))), (2, (.dat (.int .i64))), (3, (.fn 53 [] [])), (9, (.dat (.int .i64))), (10, (.dat (.int .i64))), (11, (.dat (.int .i64)))], [.arr 45 tapi_Quota false]⟩, (.exit 4), ⟨[(0, (.own tapi_Quota 0)), (1, (.dat (.int .i64))), (2, (.dat (.int .i64))), (3, (.fn 53 [] [])), (9, (.dat (.int .i64))), (10, (.dat (.int .i64)))], [.arr 45 tapi_Quota false]⟩, (.exit 80000004), ⟨[], []⟩⟩
def AL_slices_partialInsertionSortCmpFunc_api_Quota_3 : Lp := ⟨⟨[(0, (.own tapi_Quota 0)), (1, (.dat (.int .i64))), (2, (.dat (.int .i64))), (3, (.fn 53 [] [])), (9, (.dat (.int .i64))), (10, (.dat (.int .i64))), (12, (.dat (.int .i64)))], [.arr 45 tapi_Quota false]⟩, (.exit 6), ⟨[(0, (.own tapi_Quota 0)), (1, (.dat (.int .i64))), (2, (.dat (.int .i64))), (3, (.fn 53 [] [])), (9, (.dat (.int .i64))), (10, (.dat (.int .i64)))], [.arr 45 tapi_Quota false]⟩, (.exit 80000006), ⟨[], []⟩⟩
def AL_slices_partialInsertionSortCmpFunc_api_Quota_0 : Lp := ⟨⟨[(0, (.own tapi_Quota 0)), (1, (.dat (.int .i64))), (2, (.dat (.int .i64))), (3, (.fn 53 [] [])), (9, (.dat (.int .i64))), (10, (.dat (.int .i64)))], [.arr 45 tapi_Quota false]⟩, .ret, ⟨[(8, (.dat .bool))], [.arr 45 tapi_Quota false]⟩, (.exit 0), ⟨[], [.arr 45 tapi_Quota false]⟩⟩
def AS_slices_partialInsertionSortCmpFunc_api_Quota : Shape := ⟨[(0, (.own tapi_Quota 0)), (1, (.dat (.int .i64))), (2, (.dat (.int .i64))), (3, (.fn 53 [] []))], [.arr 45 tapi_Quota false]⟩
def AZ_slices_partialInsertionSortCmpFunc_api_Quota : Shape := ⟨[(0, (.dat .bool))], [.arr 45 tapi_Quota false]⟩
def AE_slices_partialInsertionSortCmpFunc_api_Quota : Ent := ⟨98, AS_slices_partialInsertionSortCmpFunc_api_Quota, AZ_slices_partialInsertionSortCmpFunc_api_Quota, slices_partialInsertionSortCmpFunc_api_Quota⟩
def AF_slices_partialInsertionSortCmpFunc_api_Quota : Fx := ⟨Acx, lookupG [AE_quota_byPath], fun k st => bif Nat.beq k 2 then AL_slices_partialInsertionSortCmpFunc_api_Quota_1.go (slices_partialInsertionSortCmpFunc_api_Quota_l1) 1 st else bif Nat.beq k 4 then AL_slices_partialInsertionSortCmpFunc_api_Quota_2.go (slices_partialInsertionSortCmpFunc_api_Quota_l2) 1 st else bif Nat.beq k 6 then AL_slices_partialInsertionSortCmpFunc_api_Quota_3.go (slices_partialInsertionSortCmpFunc_api_Quota_l3) 1 st else bif Nat.beq k 0 then AL_slices_partialInsertionSortCmpFunc_api_Quota_0.go (slices_partialInsertionSortCmpFunc_api_Quota_l0) 1 st else .fail, fun _ => none, 1⟩
theorem slices_partialInsertionSortCmpFunc_api_Quota_b1_eq (s : AL_slices_partialInsertionSortCmpFunc_api_Quota_1.S.ty.den) : @Eq (Option (AL_slices_partialInsertionSortCmpFunc_api_Quota_1.S.ty.den ⊕ AL_slices_partialInsertionSortCmpFunc_api_Quota_1.Out)) (AL_slices_partialInsertionSortCmpFunc_api_Quota_1.body AF_slices_partialInsertionSortCmpFunc_api_Quota (loopAt (bodyOf Tryz.f98) 1) 2 s).val (slices_partialInsertionSortCmpFunc_api_Quota_b1 s) := by kernel_rfl
theorem slices_partialInsertionSortCmpFunc_api_Quota_b2_eq (s : AL_slices_partialInsertionSortCmpFunc_api_Quota_2.S.ty.den) : @Eq (Option (AL_slices_partialInsertionSortCmpFunc_api_Quota_2.S.ty.den ⊕ AL_slices_partialInsertionSortCmpFunc_api_Quota_2.Out)) (AL_slices_partialInsertionSortCmpFunc_api_Quota_2.body AF_slices_partialInsertionSortCmpFunc_api_Quota (loopAt (bodyOf Tryz.f98) 2) 4 s).val (slices_partialInsertionSortCmpFunc_api_Quota_b2 s) := by kernel_rfl
theorem slices_partialInsertionSortCmpFunc_api_Quota_b3_eq (s : AL_slices_partialInsertionSortCmpFunc_api_Quota_3.S.ty.den) : @Eq (Option (AL_slices_partialInsertionSortCmpFunc_api_Quota_3.S.ty.den ⊕ AL_slices_partialInsertionSortCmpFunc_api_Quota_3.Out)) (AL_slices_partialInsertionSortCmpFunc_api_Quota_3.body AF_slices_partialInsertionSortCmpFunc_api_Quota (loopAt (bodyOf Tryz.f98) 3) 6 s).val (slices_partialInsertionSortCmpFunc_api_Quota_b3 s) := by kernel_rfl
theorem slices_partialInsertionSortCmpFunc_api_Quota_b0_eq (s : AL_slices_partialInsertionSortCmpFunc_api_Quota_0.S.ty.den) : @Eq (Option (AL_slices_partialInsertionSortCmpFunc_api_Quota_0.S.ty.den ⊕ AL_slices_partialInsertionSortCmpFunc_api_Quota_0.Out)) (AL_slices_partialInsertionSortCmpFunc_api_Quota_0.body AF_slices_partialInsertionSortCmpFunc_api_Quota (loopAt (bodyOf Tryz.f98) 0) 0 s).val (slices_partialInsertionSortCmpFunc_api_Quota_b0 s) := by kernel_rfl
theorem slices_partialInsertionSortCmpFunc_api_Quota_eq (s : AS_slices_partialInsertionSortCmpFunc_api_Quota.ty.den) : @Eq (Option AZ_slices_partialInsertionSortCmpFunc_api_Quota.ty.den) (evFn AF_slices_partialInsertionSortCmpFunc_api_Quota Tryz.f98 AS_slices_partialInsertionSortCmpFunc_api_Quota AZ_slices_partialInsertionSortCmpFunc_api_Quota s).val (slices_partialInsertionSortCmpFunc_api_Quota s) := by kernel_rfl
theorem slices_partialInsertionSortCmpFunc_api_Quota_hG : GSound Tryz.prog AF_slices_partialInsertionSortCmpFunc_api_Quota.Γ := ents_sound ⟨quota_byPath_ok, trivial⟩
theorem slices_partialInsertionSortCmpFunc_api_Quota_la1 : LamOK Tryz.prog AF_slices_partialInsertionSortCmpFunc_api_Quota Tryz.f98.ntmps 2 (loopAt (bodyOf Tryz.f98) 1) :=
  lam_sound Atab slices_partialInsertionSortCmpFunc_api_Quota_hG Amixed (L := AL_slices_partialInsertionSortCmpFunc_api_Quota_1) (f := slices_partialInsertionSortCmpFunc_api_Quota_l1) (b := slices_partialInsertionSortCmpFunc_api_Quota_b1) (m := []) (fun _ => rfl) (by kernel_rfl) (by kernel_rfl) trivial (by kernel_rfl) slices_partialInsertionSortCmpFunc_api_Quota_b1_eq
theorem slices_partialInsertionSortCmpFunc_api_Quota_la2 : LamOK Tryz.prog AF_slices_partialInsertionSortCmpFunc_api_Quota Tryz.f98.ntmps 4 (loopAt (bodyOf Tryz.f98) 2) :=
  lam_sound Atab slices_partialInsertionSortCmpFunc_api_Quota_hG Amixed (L := AL_slices_partialInsertionSortCmpFunc_api_Quota_2) (f := slices_partialInsertionSortCmpFunc_api_Quota_l2) (b := slices_partialInsertionSortCmpFunc_api_Quota_b2) (m := []) (fun _ => rfl) (by kernel_rfl) (by kernel_rfl) trivial (by kernel_rfl) slices_partialInsertionSortCmpFunc_api_Quota_b2_eq
theorem slices_partialInsertionSortCmpFunc_api_Quota_la3 : LamOK Tryz.prog AF_slices_partialInsertionSortCmpFunc_api_Quota Tryz.f98.ntmps 6 (loopAt (bodyOf Tryz.f98) 3) :=
  lam_sound Atab slices_partialInsertionSortCmpFunc_api_Quota_hG Amixed (L := AL_slices_partialInsertionSortCmpFunc_api_Quota_3) (f := slices_partialInsertionSortCmpFunc_api_Quota_l3) (b := slices_partialInsertionSortCmpFunc_api_Quota_b3) (m := []) (fun _ => rfl) (by kernel_rfl) (by kernel_rfl) trivial (by kernel_rfl) slices_partialInsertionSortCmpFunc_api_Quota_b3_eq
theorem slices_partialInsertionSortCmpFunc_api_Quota_la0 : LamOK Tryz.prog AF_slices_partialInsertionSortCmpFunc_api_Quota Tryz.f98.ntmps 0 (loopAt (bodyOf Tryz.f98) 0) :=
  lam_sound Atab slices_partialInsertionSortCmpFunc_api_Quota_hG Amixed (L := AL_slices_partialInsertionSortCmpFunc_api_Quota_0) (f := slices_partialInsertionSortCmpFunc_api_Quota_l0) (b := slices_partialInsertionSortCmpFunc_api_Quota_b0) (m := [(2, loopAt (bodyOf Tryz.f98) 1), (4, loopAt (bodyOf Tryz.f98) 2), (6, loopAt (bodyOf Tryz.f98) 3)]) (fun _ => rfl) (by kernel_rfl) (by kernel_rfl) ⟨slices_partialInsertionSortCmpFunc_api_Quota_la1, slices_partialInsertionSortCmpFunc_api_Quota_la2, slices_partialInsertionSortCmpFunc_api_Quota_la3, trivial⟩ (by kernel_rfl) slices_partialInsertionSortCmpFunc_api_Quota_b0_eq
theorem slices_partialInsertionSortCmpFunc_api_Quota_ok : EntOK Tryz.prog AE_slices_partialInsertionSortCmpFunc_api_Quota :=
  fun_sound (F := AF_slices_partialInsertionSortCmpFunc_api_Quota) Atab slices_partialInsertionSortCmpFunc_api_Quota_hG Amixed (fn := Tryz.f98) (m := [(0, loopAt (bodyOf Tryz.f98) 0), (2, loopAt (bodyOf Tryz.f98) 1), (4, loopAt (bodyOf Tryz.f98) 2), (6, loopAt (bodyOf Tryz.f98) 3)]) Tryz.func98 (by kernel_rfl) (by kernel_rfl) (by kernel_rfl) ⟨slices_partialInsertionSortCmpFunc_api_Quota_la0, slices_partialInsertionSortCmpFunc_api_Quota_la1, slices_partialInsertionSortCmpFunc_api_Quota_la2, slices_partialInsertionSortCmpFunc_api_Quota_la3, trivial⟩ (by kernel_rfl) slices_partialInsertionSortCmpFunc_api_Quota_eq

end D
/- Entries, by program. -/
set_option linter.unusedVariables false
set_option maxRecDepth 100000
open Go Go.X Go.Proofs D
namespace D
def AL_slices_partitionEqualCmpFunc_api_Quota_1 : Lp := ⟨⟨[(0, (.own tapi_Quota 0)), (1, (.dat (.int .i64))), (4, (.fn 53 [] [])), (11, (.dat (.int .i64))), (12, (.dat (.int .i64)))], [.arr 45 tapi_Quota false]⟩, (.exit 2), ⟨[(0, (.own tapi_Quota 0)), (1, (.dat (.int .i64))), (4, (.fn 53 [] [])), (11, (.dat (.int .i64))), (12, (.dat (.int .i64)))], [.arr 45 tapi_Quota false]⟩, (.exit 80000002), ⟨[], []⟩⟩
def AL_slices_partitionEqualCmpFunc_api_Quota_2 : Lp := ⟨⟨[(0, (.own tapi_Quota 0)), (1, (.dat (.int .i64))), (4, (.fn 53 [] [])), (11, (.dat (.int .i64))), (12, (.dat (.int .i64)))], [.arr 45 tapi_Quota false]⟩, (.exit 4), ⟨[(0, (.own tapi_Quota 0)), (1, (.dat (.int .i64))), (4, (.fn 53 [] [])), (11, (.dat (.int .i64))), (12, (.dat (.int .i64)))], [.arr 45 tapi_Quota false]⟩, (.exit 80000004), ⟨[], []⟩⟩
def AL_slices_partitionEqualCmpFunc_api_Quota_0 : Lp := ⟨⟨[(0, (.own tapi_Quota 0)), (1, (.dat (.int .i64))), (4, (.fn 53 [] [])), (11, (.dat (.int .i64))), (12, (.dat (.int .i64)))], [.arr 45 tapi_Quota false]⟩, (.exit 0), ⟨[(11, (.dat (.int .i64)))], [.arr 45 tapi_Quota false]⟩, (.exit 80000000), ⟨[], []⟩⟩
def AS_slices_partitionEqualCmpFunc_api_Quota : Shape := ⟨[(0, (.own tapi_Quota 0)), (1, (.dat (.int .i64))), (2, (.dat (.int .i64))), (3, (.dat (.int .i64))), (4, (.fn 53 [] []))], [.arr 45 tapi_Quota false]⟩
def AZ_slices_partitionEqualCmpFunc_api_Quota : Shape := ⟨[(0, (.dat (.int .i64)))], [.arr 45 tapi_Quota false]⟩
def AE_slices_partitionEqualCmpFunc_api_Quota : Ent := ⟨99, AS_slices_partitionEqualCmpFunc_api_Quota, AZ_slices_partitionEqualCmpFunc_api_Quota, slices_partitionEqualCmpFunc_api_Quota⟩
def AF_slices_partitionEqualCmpFunc_api_Quota : Fx := ⟨Acx, lookupG [AE_quota_byPath], fun k st => bif Nat.beq k 2 then AL_slices_partitionEqualCmpFunc_api_Quota_1.go (slices_partitionEqualCmpFunc_api_Quota_l1) 1 st else bif Nat.beq k 4 then AL_slices_partitionEqualCmpFunc_api_Quota_2.go (slices_partitionEqualCmpFunc_api_Quota_l2) 1 st else bif Nat.beq k 0 then AL_slices_partitionEqualCmpFunc_api_Quota_0.go (slices_partitionEqualCmpFunc_api_Quota_l0) 1 st else .fail, fun _ => none, 1⟩
theorem slices_partitionEqualCmpFunc_api_Quota_b1_eq (s : AL_slices_partitionEqualCmpFunc_api_Quota_1.S.ty.den) : @Eq (Option (AL_slices_partitionEqualCmpFunc_api_Quota_1.S.ty.den ⊕ AL_slices_partitionEqualCmpFunc_api_Quota_1.Out)) (AL_slices_partitionEqualCmpFunc_api_Quota_1.body AF_slices_partitionEqualCmpFunc_api_Quota (loopAt (bodyOf Tryz.f99) 1) 2 s).val (slices_partitionEqualCmpFunc_api_Quota_b1 s) := by kernel_rfl
theorem slices_partitionEqualCmpFunc_api_Quota_b2_eq (s : AL_slices_partitionEqualCmpFunc_api_Quota_2.S.ty.den) : @Eq (Option (AL_slices_partitionEqualCmpFunc_api_Quota_2.S.ty.den ⊕ AL_slices_partitionEqualCmpFunc_api_Quota_2.Out)) (AL_slices_partitionEqualCmpFunc_api_Quota_2.body AF_slices_partitionEqualCmpFunc_api_Quota (loopAt (bodyOf Tryz.f99) 2) 4 s).val (slices_partitionEqualCmpFunc_api_Quota_b2 s) := by kernel_rfl
theorem slices_partitionEqualCmpFunc_api_Quota_b0_eq (s : AL_slices_partitionEqualCmpFunc_api_Quota_0.S.ty.den) : @Eq (Option (AL_slices_partitionEqualCmpFunc_api_Quota_0.S.ty.den ⊕ AL_slices_partitionEqualCmpFunc_api_Quota_0.Out)) (AL_slices_partitionEqualCmpFunc_api_Quota_0.body AF_slices_partitionEqualCmpFunc_api_Quota (loopAt (bodyOf Tryz.f99) 0) 0 s).val (slices_partitionEqualCmpFunc_api_Quota_b0 s) := by kernel_rfl
theorem slices_partitionEqualCmpFunc_api_Quota_eq (s : AS_slices_partitionEqualCmpFunc_api_Quota.ty.den) : @Eq (Option AZ_slices_partitionEqualCmpFunc_api_Quota.ty.den) (evFn AF_slices_partitionEqualCmpFunc_api_Quota Tryz.f99 AS_slices_partitionEqualCmpFunc_api_Quota AZ_slices_partitionEqualCmpFunc_api_Quota s).val (slices_partitionEqualCmpFunc_api_Quota s) := by kernel_rfl
theorem slices_partitionEqualCmpFunc_api_Quota_hG : GSound Tryz.prog AF_slices_partitionEqualCmpFunc_api_Quota.Γ := ents_sound ⟨quota_byPath_ok, trivial⟩
theorem slices_partitionEqualCmpFunc_api_Quota_la1 : LamOK Tryz.prog AF_slices_partitionEqualCmpFunc_api_Quota Tryz.f99.ntmps 2 (loopAt (bodyOf Tryz.f99) 1) :=
  lam_sound Atab slices_partitionEqualCmpFunc_api_Quota_hG Amixed (L := AL_slices_partitionEqualCmpFunc_api_Quota_1) (f := slices_partitionEqualCmpFunc_api_Quota_l1) (b := slices_partitionEqualCmpFunc_api_Quota_b1) (m := []) (fun _ => rfl) (by kernel_rfl) (by kernel_rfl) trivial (by kernel_rfl) slices_partitionEqualCmpFunc_api_Quota_b1_eq
theorem slices_partitionEqualCmpFunc_api_Quota_la2 : LamOK Tryz.prog AF_slices_partitionEqualCmpFunc_api_Quota Tryz.f99.ntmps 4 (loopAt (bodyOf Tryz.f99) 2) :=
  lam_sound Atab slices_partitionEqualCmpFunc_api_Quota_hG Amixed (L := AL_slices_partitionEqualCmpFunc_api_Quota_2) (f := slices_partitionEqualCmpFunc_api_Quota_l2) (b := slices_partitionEqualCmpFunc_api_Quota_b2) (m := []) (fun _ => rfl) (by kernel_rfl) (by kernel_rfl) trivial (by kernel_rfl) slices_partitionEqualCmpFunc_api_Quota_b2_eq
theorem slices_partitionEqualCmpFunc_api_Quota_la0 : LamOK Tryz.prog AF_slices_partitionEqualCmpFunc_api_Quota Tryz.f99.ntmps 0 (loopAt (bodyOf Tryz.f99) 0) :=
  lam_sound Atab slices_partitionEqualCmpFunc_api_Quota_hG Amixed (L := AL_slices_partitionEqualCmpFunc_api_Quota_0) (f := slices_partitionEqualCmpFunc_api_Quota_l0) (b := slices_partitionEqualCmpFunc_api_Quota_b0) (m := [(2, loopAt (bodyOf Tryz.f99) 1), (4, loopAt (bodyOf Tryz.f99) 2)]) (fun _ => rfl) (by kernel_rfl) (by kernel_rfl) ⟨slices_partitionEqualCmpFunc_api_Quota_la1, slices_partitionEqualCmpFunc_api_Quota_la2, trivial⟩ (by kernel_rfl) slices_partitionEqualCmpFunc_api_Quota_b0_eq
theorem slices_partitionEqualCmpFunc_api_Quota_ok : EntOK Tryz.prog AE_slices_partitionEqualCmpFunc_api_Quota :=
  fun_sound (F := AF_slices_partitionEqualCmpFunc_api_Quota) Atab slices_partitionEqualCmpFunc_api_Quota_hG Amixed (fn := Tryz.f99) (m := [(0, loopAt (bodyOf Tryz.f99) 0), (2, loopAt (bodyOf Tryz.f99) 1), (4, loopAt (bodyOf Tryz.f99) 2)]) Tryz.func99 (by kernel_rfl) (by kernel_rfl) (by kernel_rfl) ⟨slices_partitionEqualCmpFunc_api_Quota_la0, slices_partitionEqualCmpFunc_api_Quota_la1, slices_partitionEqualCmpFunc_api_Quota_la2, trivial⟩ (by kernel_rfl) slices_partitionEqualCmpFunc_api_Quota_eq
def AL_slices_partitionCmpFunc_api_Quota_0 : Lp := ⟨⟨[(0, (.own tapi_Quota 0)), (1, (.dat (.int .i64))), (4, (.fn 53 [] [])), (12, (.dat (.int .i64))), (13, (.dat (.int .i64)))], [.arr 45 tapi_Quota false]⟩, (.exit 0), ⟨[(0, (.own tapi_Quota 0)), (1, (.dat (.int .i64))), (4, (.fn 53 [] [])), (12, (.dat (.int .i64))), (13, (.dat (.int .i64)))], [.arr 45 tapi_Quota false]⟩, (.exit 80000000), ⟨[], []⟩⟩
def AL_slices_partitionCmpFunc_api_Quota_1 : Lp := ⟨⟨[(0, (.own tapi_Quota 0)), (1, (.dat (.int .i64))), (4, (.fn 53 [] [])), (12, (.dat (.int .i64))), (13, (.dat (.int .i64)))], [.arr 45 tapi_Quota false]⟩, (.exit 2), ⟨[(0, (.own tapi_Quota 0)), (1, (.dat (.int .i64))), (4, (.fn 53 [] [])), (12, (.dat (.int .i64))), (13, (.dat (.int .i64)))], [.arr 45 tapi_Quota false]⟩, (.exit 80000002), ⟨[], []⟩⟩
def AL_slices_partitionCmpFunc_api_Quota_3 : Lp := ⟨⟨[(0, (.own tapi_Quota 0)), (1, (.dat (.int .i64))), (4, (.fn 53 [] [])), (12, (.dat (.int .i64))), (13, (.dat (.int .i64)))], [.arr 45 tapi_Quota false]⟩, (.exit 6), ⟨[(0, (.own tapi_Quota 0)), (1, (.dat (.int .i64))), (4, (.fn 53 [] [])), (12, (.dat (.int .i64))), (13, (.dat (.int .i64)))], [.arr 45 tapi_Quota false]⟩, (.exit 80000006), ⟨[], []⟩⟩
def AL_slices_partitionCmpFunc_api_Quota_4 : Lp := ⟨⟨[(0, (.own tapi_Quota 0)), (1, (.dat (.int .i64))), (4, (.fn 53 [] [])), (12, (.dat (.int .i64))), (13, (.dat (.int .i64)))], [.arr 45 tapi_Quota false]⟩, (.exit 8), ⟨[(0, (.own tapi_Quota 0)), (1, (.dat (.int .i64))), (4, (.fn 53 [] [])), (12, (.dat (.int .i64))), (13, (.dat (.int .i64)))], [.arr 45 tapi_Quota false]⟩, (.exit 80000008), ⟨[], []⟩⟩
def AL_slices_partitionCmpFunc_api_Quota_2 : Lp := ⟨⟨[(0, (.own tapi_Quota 0)), (1, (.dat (.int .i64))), (4, (.fn 53 [] [])), (12, (.dat (.int .i64))), (13, (.dat (.int .i64)))], [.arr 45 tapi_Quota false]⟩, (.exit 4), ⟨[(0, (.own tapi_Quota 0)), (1, (.dat (.int .i64))), (13, (.dat (.int .i64)))], [.arr 45 tapi_Quota false]⟩, (.exit 80000004), ⟨[], []⟩⟩
def AS_slices_partitionCmpFunc_api_Quota : Shape := ⟨[(0, (.own tapi_Quota 0)), (1, (.dat (.int .i64))), (2, (.dat (.int .i64))), (3, (.dat (.int .i64))), (4, (.fn 53 [] []))], [.arr 45 tapi_Quota false]⟩
def AZ_slices_partitionCmpFunc_api_Quota : Shape := ⟨[(0, (.dat (.int .i64))), (1, (.dat .bool))], [.arr 45 tapi_Quota false]⟩
def AE_slices_partitionCmpFunc_api_Quota : Ent := ⟨100, AS_slices_partitionCmpFunc_api_Quota, AZ_slices_partitionCmpFunc_api_Quota, slices_partitionCmpFunc_api_Quota⟩
def AF_slices_partitionCmpFunc_api_Quota : Fx := ⟨Acx, lookupG [AE_quota_byPath], fun k st => bif Nat.beq k 0 then AL_slices_partitionCmpFunc_api_Quota_0.go (slices_partitionCmpFunc_api_Quota_l0) 1 st else bif Nat.beq k 2 then AL_slices_partitionCmpFunc_api_Quota_1.go (slices_partitionCmpFunc_api_Quota_l1) 1 st else bif Nat.beq k 6 then AL_slices_partitionCmpFunc_api_Quota_3.go (slices_partitionCmpFunc_api_Quota_l3) 1 st else bif Nat.beq k 8 then AL_slices_partitionCmpFunc_api_Quota_4.go (slices_partitionCmpFunc_api_Quota_l4) 1 st else bif Nat.beq k 4 then AL_slices_partitionCmpFunc_api_Quota_2.go (slices_partitionCmpFunc_api_Quota_l2) 1 st else .fail, fun _ => none, 1⟩
theorem slices_partitionCmpFunc_api_Quota_b0_eq (s : AL_slices_partitionCmpFunc_api_Quota_0.S.ty.den) : @Eq (Option (AL_slices_partitionCmpFunc_api_Quota_0.S.ty.den ⊕ AL_slices_partitionCmpFunc_api_Quota_0.Out)) (AL_slices_partitionCmpFunc_api_Quota_0.body AF_slices_partitionCmpFunc_api_Quota (loopAt (bodyOf Tryz.f100) 0) 0 s).val (slices_partitionCmpFunc_api_Quota_b0 s) := by kernel_rfl
theorem slices_partitionCmpFunc_api_Quota_b1_eq (s : AL_slices_partitionCmpFunc_api_Quota_1.S.ty.den) : @Eq (Option (AL_slices_partitionCmpFunc_api_Quota_1.S.ty.den ⊕ AL_slices_partitionCmpFunc_api_Quota_1.Out)) (AL_slices_partitionCmpFunc_api_Quota_1.body AF_slices_partitionCmpFunc_api_Quota (loopAt (bodyOf Tryz.f100) 1) 2 s).val (slices_partitionCmpFunc_api_Quota_b1 s) := by kernel_rfl
theorem slices_partitionCmpFunc_api_Quota_b3_eq (s : AL_slices_partitionCmpFunc_api_Quota_3.S.ty.den) : @Eq (Option (AL_slices_partitionCmpFunc_api_Quota_3.S.ty.den ⊕ AL_slices_partitionCmpFunc_api_Quota_3.Out)) (AL_slices_partitionCmpFunc_api_Quota_3.body AF_slices_partitionCmpFunc_api_Quota (loopAt (bodyOf Tryz.f100) 3) 6 s).val (slices_partitionCmpFunc_api_Quota_b3 s) := by kernel_rfl
theorem slices_partitionCmpFunc_api_Quota_b4_eq (s : AL_slices_partitionCmpFunc_api_Quota_4.S.ty.den) : @Eq (Option (AL_slices_partitionCmpFunc_api_Quota_4.S.ty.den ⊕ AL_slices_partitionCmpFunc_api_Quota_4.Out)) (AL_slices_partitionCmpFunc_api_Quota_4.body AF_slices_partitionCmpFunc_api_Quota (loopAt (bodyOf Tryz.f100) 4) 8 s).val (slices_partitionCmpFunc_api_Quota_b4 s) := by kernel_rfl
theorem slices_partitionCmpFunc_api_Quota_b2_eq (s : AL_slices_partitionCmpFunc_api_Quota_2.S.ty.den) : @Eq (Option (AL_slices_partitionCmpFunc_api_Quota_2.S.ty.den ⊕ AL_slices_partitionCmpFunc_api_Quota_2.Out)) (AL_slices_partitionCmpFunc_api_Quota_2.body AF_slices_partitionCmpFunc_api_Quota (loopAt (bodyOf Tryz.f100) 2) 4 s).val (slices_partitionCmpFunc_api_Quota_b2 s) := by kernel_rfl
theorem slices_partitionCmpFunc_api_Quota_eq (s : AS_slices_partitionCmpFunc_api_Quota.ty.den) : @Eq (Option AZ_slices_partitionCmpFunc_api_Quota.ty.den) (evFn AF_slices_partitionCmpFunc_api_Quota Tryz.f100 AS_slices_partitionCmpFunc_api_Quota AZ_slices_partitionCmpFunc_api_Quota s).val (slices_partitionCmpFunc_api_Quota s) := by kernel_rfl
theorem slices_partitionCmpFunc_api_Quota_hG : GSound Tryz.prog AF_slices_partitionCmpFunc_api_Quota.Γ := ents_sound ⟨quota_byPath_ok, trivial⟩
theorem slices_partitionCmpFunc_api_Quota_la0 : LamOK Tryz.prog AF_slices_partitionCmpFunc_api_Quota Tryz.f100.ntmps 0 (loopAt (bodyOf Tryz.f100) 0) :=
  lam_sound Atab slices_partitionCmpFunc_api_Quota_hG Amixed (L := AL_slices_partitionCmpFunc_api_Quota_0) (f := slices_partitionCmpFunc_api_Quota_l0) (b := slices_partitionCmpFunc_api_Quota_b0) (m := []) (fun _ => rfl) (by kernel_rfl) (by kernel_rfl) trivial (by kernel_rfl) slices_partitionCmpFunc_api_Quota_b0_eq
theorem slices_partitionCmpFunc_api_Quota_la1 : LamOK Tryz.prog AF_slices_partitionCmpFunc_api_Quota Tryz.f100.ntmps 2 (loopAt (bodyOf Tryz.f100) 1) :=
  lam_sound Atab slices_partitionCmpFunc_api_Quota_hG Amixed (L := AL_slices_partitionCmpFunc_api_Quota_1) (f := slices_partitionCmpFunc_api_Quota_l1) (b := slices_partitionCmpFunc_api_Quota_b1) (m := []) (fun _ => rfl) (by kernel_rfl) (by kernel_rfl) trivial (by kernel_rfl) slices_partitionCmpFunc_api_Quota_b1_eq
theorem slices_partitionCmpFunc_api_Quota_la3 : LamOK Tryz.prog AF_slices_partitionCmpFunc_api_Quota Tryz.f100.ntmps 6 (loopAt (bodyOf Tryz.f100) 3) :=
  lam_sound Atab slices_partitionCmpFunc_api_Quota_hG Amixed (L := AL_slices_partitionCmpFunc_api_Quota_3) (f := slices_partitionCmpFunc_api_Quota_l3) (b := slices_partitionCmpFunc_api_Quota_b3) (m := []) (fun _ => rfl) (by kernel_rfl) (by kernel_rfl) trivial (by kernel_rfl) slices_partitionCmpFunc_api_Quota_b3_eq
theorem slices_partitionCmpFunc_api_Quota_la4 : LamOK Tryz.prog AF_slices_partitionCmpFunc_api_Quota Tryz.f100.ntmps 8 (loopAt (bodyOf Tryz.f100) 4) :=
  lam_sound Atab slices_partitionCmpFunc_api_Quota_hG Amixed (L := AL_slices_partitionCmpFunc_api_Quota_4) (f := slices_partitionCmpFunc_api_Quota_l4) (b := slices_partitionCmpFunc_api_Quota_b4) (m := []) (fun _ => rfl) (by kernel_rfl) (by kernel_rfl) trivial (by kernel_rfl) slices_partitionCmpFunc_api_Quota_b4_eq
theorem slices_partitionCmpFunc_api_Quota_la2 : LamOK Tryz.prog AF_slices_partitionCmpFunc_api_Quota Tryz.f100.ntmps 4 (loopAt (bodyOf Tryz.f100) 2) :=
  lam_sound Atab slices_partitionCmpFunc_api_Quota_hG Amixed (L := AL_slices_partitionCmpFunc_api_Quota_2) (f := slices_partitionCmpFunc_api_Quota_l2) (b := slices_partitionCmpFunc_api_Quota_b2) (m := [(6, loopAt (bodyOf Tryz.f100) 3), (8, loopAt (bodyOf Tryz.f100) 4)]) (fun _ => rfl) (by kernel_rfl) (by kernel_rfl) ⟨slices_partitionCmpFunc_api_Quota_la3, slices_partitionCmpFunc_api_Quota_la4, trivial⟩ (by kernel_rfl) slices_partitionCmpFunc_api_Quota_b2_eq
theorem slices_partitionCmpFunc_api_Quota_ok : EntOK Tryz.prog AE_slices_partitionCmpFunc_api_Quota :=
  fun_sound (F := AF_slices_partitionCmpFunc_api_Quota) Atab slices_partitionCmpFunc_api_Quota_hG Amixed (fn := Tryz.f100) (m := [(0, loopAt (bodyOf Tryz.f100) 0), (2, loopAt (bodyOf Tryz.f100) 1), (4, loopAt (bodyOf Tryz.f100) 2), (6, loopAt (bodyOf Tryz.f100) 3), (8, loopAt (bodyOf Tryz.f100) 4)]) Tryz.func100 (by kernel_rfl) (by kernel_rfl) (by kernel_rfl) ⟨slices_partitionCmpFunc_api_Quota_la0, slices_partitionCmpFunc_api_Quota_la1, slices_partitionCmpFunc_api_Quota_la2, slices_partitionCmpFunc_api_Quota_la3, slices_partitionCmpFunc_api_Quota_la4, trivial⟩ (by kernel_rfl) slices_partitionCmpFunc_api_Quota_eq
def AS_slices_nextPowerOfTwo : Shape := ⟨[(0, (.dat (.int .i64)))], []⟩
def AZ_slices_nextPowerOfTwo : Shape := ⟨[(0, (.dat (.int .u64)))], []⟩
def AE_slices_nextPowerOfTwo : Ent := ⟨114, AS_slices_nextPowerOfTwo, AZ_slices_nextPowerOfTwo, slices_nextPowerOfTwo⟩
def AF_slices_nextPowerOfTwo : Fx := ⟨Acx, lookupG [AE_math_bits_Len], fun k st => .fail, fun _ => none, 0⟩
theorem slices_nextPowerOfTwo_eq (s : AS_slices_nextPowerOfTwo.ty.den) : @Eq (Option AZ_slices_nextPowerOfTwo.ty.den) (evFn AF_slices_nextPowerOfTwo Tryz.f114 AS_slices_nextPowerOfTwo AZ_slices_nextPowerOfTwo s).val (slices_nextPowerOfTwo s) := by kernel_rfl
theorem slices_nextPowerOfTwo_hG : GSound Tryz.prog AF_slices_nextPowerOfTwo.Γ := ents_sound ⟨math_bits_Len_ok, trivial⟩
theorem slices_nextPowerOfTwo_ok : EntOK Tryz.prog AE_slices_nextPowerOfTwo :=
  fun_sound (F := AF_slices_nextPowerOfTwo) Atab slices_nextPowerOfTwo_hG Amixed (fn := Tryz.f114) (m := []) Tryz.func114 (by kernel_rfl) (by kernel_rfl) (by kernel_rfl) trivial (by kernel_rfl) slices_nextPowerOfTwo_eq
def AS_slices_xorshift_Next : Shape := ⟨[(0, (.ptr 0 (.int .u64) 0 []))], [.box 144 (.int .u64) (.dat (.int .u64))]⟩
def AZ_slices_xorshift_Next : Shape := ⟨[(0, (.dat (.int .u64)))], [.box 144 (.int .u64) (.dat (.int .u64))]⟩
def AE_slices_xorshift_Next : Ent := ⟨115, AS_slices_xorshift_Next, AZ_slices_xorshift_Next, slices_xorshift_Next⟩
def AF_slices_xorshift_Next : Fx := ⟨Acx, lookupG [], fun k st => .fail, fun _ => none, 1⟩
theorem slices_xorshift_Next_eq (s : AS_slices_xorshift_Next.ty.den) : @Eq (Option AZ_slices_xorshift_Next.ty.den) (evFn AF_slices_xorshift_Next Tryz.f115 AS_slices_xorshift_Next AZ_slices_xorshift_Next s).val (slices_xorshift_Next s) := by kernel_rfl
theorem slices_xorshift_Next_hG : GSound Tryz.prog AF_slices_xorshift_Next.Γ := ents_sound trivial
theorem slices_xorshift_Next_ok : EntOK Tryz.prog AE_slices_xorshift_Next :=
  fun_sound (F := AF_slices_xorshift_Next) Atab slices_xorshift_Next_hG Amixed (fn := Tryz.f115) (m := []) Tryz.func115 (by kernel_rfl) (by kernel_rfl) (by kernel_rfl) trivial (by kernel_rfl) slices_xorshift_Next_eq
def AL_slices_breakPatternsCmpFunc_api_Quota_0 : Lp := ⟨⟨[(0, (.own tapi_Quota 0)), (1, (.dat (.int .i64))), (8, (.dat (.int .i64))), (9, (.ptr 1 (.int .u64) 0 [])), (10, (.dat (.int .u64))), (11, (.dat (.int .i64)))], [.arr 45 tapi_Quota false, .box 144 (.int .u64) (.dat (.int .u64))]⟩, (.exit 0), ⟨[], [.arr 45 tapi_Quota false]⟩, (.exit 80000000), ⟨[], []⟩⟩
def AS_slices_breakPatternsCmpFunc_api_Quota : Shape := ⟨[(0, (.own tapi_Quota 0)), (1, (.dat (.int .i64))), (2, (.dat (.int .i64))), (3, (.fn 53 [] []))], [.arr 45 tapi_Quota false]⟩
def AZ_slices_breakPatternsCmpFunc_api_Quota : Shape := ⟨[], [.arr 45 tapi_Quota false]⟩
def AE_slices_breakPatternsCmpFunc_api_Quota : Ent := ⟨95, AS_slices_breakPatternsCmpFunc_api_Quota, AZ_slices_breakPatternsCmpFunc_api_Quota, slices_breakPatternsCmpFunc_api_Quota⟩
def AF_slices_breakPatternsCmpFunc_api_Quota : Fx := ⟨Acx, lookupG [AE_quota_byPath, AE_slices_nextPowerOfTwo, AE_slices_xorshift_Next], fun k st => bif Nat.beq k 0 then AL_slices_breakPatternsCmpFunc_api_Quota_0.go (slices_breakPatternsCmpFunc_api_Quota_l0) 1 st else .fail, fun _ => none, 1⟩
theorem slices_breakPatternsCmpFunc_api_Quota_b0_eq (s : AL_slices_breakPatternsCmpFunc_api_Quota_0.S.ty.den) : @Eq (Option (AL_slices_breakPatternsCmpFunc_api_Quota_0.S.ty.den ⊕ AL_slices_breakPatternsCmpFunc_api_Quota_0.Out)) (AL_slices_breakPatternsCmpFunc_api_Quota_0.body AF_slices_breakPatternsCmpFunc_api_Quota (loopAt (bodyOf Tryz.f95) 0) 0 s).val (slices_breakPatternsCmpFunc_api_Quota_b0 s) := by kernel_rfl
theorem slices_breakPatternsCmpFunc_api_Quota_eq (s : AS_slices_breakPatternsCmpFunc_api_Quota.ty.den) : @Eq (Option AZ_slices_breakPatternsCmpFunc_api_Quota.ty.den) (evFn AF_slices_breakPatternsCmpFunc_api_Quota Tryz.f95 AS_slices_breakPatternsCmpFunc_api_Quota AZ_slices_breakPatternsCmpFunc_api_Quota s).val (slices_breakPatternsCmpFunc_api_Quota s) := by kernel_rfl
theorem slices_breakPatternsCmpFunc_api_Quota_hG : GSound Tryz.prog AF_slices_breakPatternsCmpFunc_api_Quota.Γ := ents_sound ⟨quota_byPath_ok, slices_nextPowerOfTwo_ok, slices_xorshift_Next_ok, trivial⟩
theorem slices_breakPatternsCmpFunc_api_Quota_la0 : LamOK Tryz.prog AF_slices_breakPatternsCmpFunc_api_Quota Tryz.f95.ntmps 0 (loopAt (bodyOf Tryz.f95) 0) :=
  lam_sound Atab slices_breakPatternsCmpFunc_api_Quota_hG Amixed (L := AL_slices_breakPatternsCmpFunc_api_Quota_0) (f := slices_breakPatternsCmpFunc_api_Quota_l0) (b := slices_breakPatternsCmpFunc_api_Quota_b0) (m := []) (fun _ => rfl) (by kernel_rfl) (by kernel_rfl) trivial (by kernel_rfl) slices_breakPatternsCmpFunc_api_Quota_b0_eq
theorem slices_breakPatternsCmpFunc_api_Quota_ok : EntOK Tryz.prog AE_slices_breakPatternsCmpFunc_api_Quota :=
  fun_sound (F := AF_slices_breakPatternsCmpFunc_api_Quota) Atab slices_breakPatternsCmpFunc_api_Quota_hG Amixed (fn := Tryz.f95) (m := [(0, loopAt (bodyOf Tryz.f95) 0)]) Tryz.func95 (by kernel_rfl) (by kernel_rfl) (by kernel_rfl) ⟨slices_breakPatternsCmpFunc_api_Quota_la0, trivial⟩ (by kernel_rfl) slices_breakPatternsCmpFunc_api_Quota_eq
def AL_slices_pdqsortCmpFunc_api_Quota_c100016 : Lp := ⟨⟨[(0, (.own tapi_Quota 0)), (1, (.dat (.int .i64))), (2, (.dat (.int .i64))), (3, (.dat (.int .i64))), (4, (.fn 53 [] [])), (10, (.dat .bool)), (11, (.dat .bool)), (12, (.dat (.int .i64))), (13, (.dat (.int .i64))), (75, (.dat .bool))], [.arr 45 tapi_Quota false]⟩, .nrm, ⟨[(0, (.own tapi_Quota 0)), (1, (.dat (.int .i64))), (2, (.dat (.int .i64))), (3, (.dat (.int .i64))), (4, (.fn 53 [] [])), (10, (.dat .bool)), (11, (.dat .bool)), (12, (.dat (.int .i64))), (13, (.dat (.int .i64)))], [.arr 45 tapi_Quota false]⟩, .ret, ⟨[], [.arr 45 tapi_Quota false]⟩⟩
def AL_slices_pdqsortCmpFunc_api_Quota_c100018 : Lp := ⟨⟨[(0, (.own tapi_Quota 0)), (1, (.dat (.int .i64))), (2, (.dat (.int .i64))), (3, (.dat (.int .i64))), (4, (.fn 53 [] [])), (10, (.dat .bool)), (11, (.dat .bool)), (12, (.dat (.int .i64))), (13, (.dat (.int .i64))), (97, (.dat .bool))], [.arr 45 tapi_Quota false]⟩, .nrm, ⟨[(0, (.own tapi_Quota 0)), (1, (.dat (.int .i64))), (2, (.dat (.int .i64))), (3, (.dat (.int .i64))), (4, (.fn 53 [] [])), (12, (.dat (.int .i64))), (13, (.dat (.int .i64)))], [.arr 45 tapi_Quota false]⟩, (.exit 1), ⟨[(0, (.own tapi_Quota 0)), (1, (.dat (.int .i64))), (2, (.dat (.int .i64))), (3, (.dat (.int .i64))), (4, (.fn 53 [] [])), (10, (.dat .bool)), (11, (.dat .bool))], [.arr 45 tapi_Quota false]⟩⟩
def AL_slices_pdqsortCmpFunc_api_Quota_c20 : Lp := ⟨⟨[(0, (.own tapi_Quota 0)), (1, (.dat (.int .i64))), (2, (.dat (.int .i64))), (3, (.dat (.int .i64))), (4, (.fn 53 [] [])), (12, (.dat (.int .i64))), (13, (.dat (.int .i64)))], [.arr 45 tapi_Quota false]⟩, .nrm, ⟨[(0, (.own tapi_Quota 0)), (1, (.dat (.int .i64))), (2, (.dat (.int .i64))), (3, (.dat (.int .i64))), (4, (.fn 53 [] [])), (10, (.dat .bool)), (11, (.dat .bool))], [.arr 45 tapi_Quota false]⟩, (.exit 90000020), ⟨[], []⟩⟩
def AL_slices_pdqsortCmpFunc_api_Quota_c17 : Lp := ⟨⟨[(0, (.own tapi_Quota 0)), (1, (.dat (.int .i64))), (2, (.dat (.int .i64))), (3, (.dat (.int .i64))), (4, (.fn 53 [] [])), (10, (.dat .bool)), (11, (.dat .bool)), (12, (.dat (.int .i64))), (13, (.dat (.int .i64)))], [.arr 45 tapi_Quota false]⟩, .nrm, ⟨[(0, (.own tapi_Quota 0)), (1, (.dat (.int .i64))), (2, (.dat (.int .i64))), (3, (.dat (.int .i64))), (4, (.fn 53 [] [])), (10, (.dat .bool)), (11, (.dat .bool))], [.arr 45 tapi_Quota false]⟩, (.exit 1), ⟨[(0, (.own tapi_Quota 0)), (1, (.dat (.int .i64))), (2, (.dat (.int .i64))), (3, (.dat (.int .i64))), (4, (.fn 53 [] [])), (10, (.dat .bool)), (11, (.dat .bool))], [.arr 45 tapi_Quota false]⟩⟩
def AL_slices_pdqsortCmpFunc_api_Quota_0 : Lp := ⟨⟨[(0, (.own tapi_Quota 0)), (1, (.dat (.int .i64))), (2, (.dat (.int .i64))), (3, (.dat (.int .i64))), (4, (.fn 53 [] [])), (10, (.dat .bool)), (11, (.dat .bool))], [.arr 45 tapi_Quota false]⟩, .ret, ⟨[], [.arr 45 tapi_Quota false]⟩, (.exit 80000000), ⟨[], []⟩⟩
def AS_slices_pdqsortCmpFunc_api_Quota : Shape := ⟨[(0, (.own tapi_Quota 0)), (1, (.dat (.int .i64))), (2, (.dat (.int .i64))), (3, (.dat (.int .i64))), (4, (.fn 53 [] []))], [.arr 45 tapi_Quota false]⟩
def AZ_slices_pdqsortCmpFunc_api_Quota : Shape := ⟨[], [.arr 45 tapi_Quota false]⟩
def AE_slices_pdqsortCmpFunc_api_Quota : Ent := ⟨76, AS_slices_pdqsortCmpFunc_api_Quota, AZ_slices_pdqsortCmpFunc_api_Quota, slices_pdqsortCmpFunc_api_Quota⟩
def AE_slices_pdqsortCmpFunc_api_Quota_r (slices_pdqsortCmpFunc_api_Quota_r : ((Int) × (Int) × (Int) × (List (api_Quota)) × Unit) → Option ((List (api_Quota)) × Unit)) : Ent := ⟨76, AS_slices_pdqsortCmpFunc_api_Quota, AZ_slices_pdqsortCmpFunc_api_Quota, slices_pdqsortCmpFunc_api_Quota_r⟩
def AF_slices_pdqsortCmpFunc_api_Quota (slices_pdqsortCmpFunc_api_Quota_r : ((Int) × (Int) × (Int) × (List (api_Quota)) × Unit) → Option ((List (api_Quota)) × Unit)) : Fx := ⟨Acx, lookupG [AE_quota_byPath, AE_slices_insertionSortCmpFunc_api_Quota, AE_slices_heapSortCmpFunc_api_Quota, AE_slices_choosePivotCmpFunc_api_Quota, AE_slices_reverseRangeCmpFunc_api_Quota, AE_slices_partialInsertionSortCmpFunc_api_Quota, AE_slices_partitionEqualCmpFunc_api_Quota, AE_slices_partitionCmpFunc_api_Quota, AE_slices_breakPatternsCmpFunc_api_Quota, (AE_slices_pdqsortCmpFunc_api_Quota_r slices_pdqsortCmpFunc_api_Quota_r)], fun k st => bif Nat.beq k 0 then AL_slices_pdqsortCmpFunc_api_Quota_0.go (slices_pdqsortCmpFunc_api_Quota_l0 slices_pdqsortCmpFunc_api_Quota_r) 1 st else .fail, fun _ => none, 1⟩
def AC_slices_pdqsortCmpFunc_api_Quota (slices_pdqsortCmpFunc_api_Quota_r : ((Int) × (Int) × (Int) × (List (api_Quota)) × Unit) → Option ((List (api_Quota)) × Unit)) : Cuts := [(100016, AL_slices_pdqsortCmpFunc_api_Quota_c100016.go (slices_pdqsortCmpFunc_api_Quota_c100016 slices_pdqsortCmpFunc_api_Quota_r) 1), (100018, AL_slices_pdqsortCmpFunc_api_Quota_c100018.go (slices_pdqsortCmpFunc_api_Quota_c100018 slices_pdqsortCmpFunc_api_Quota_r) 1), (20, AL_slices_pdqsortCmpFunc_api_Quota_c20.go (slices_pdqsortCmpFunc_api_Quota_c20 slices_pdqsortCmpFunc_api_Quota_r) 1), (17, AL_slices_pdqsortCmpFunc_api_Quota_c17.go (slices_pdqsortCmpFunc_api_Quota_c17 slices_pdqsortCmpFunc_api_Quota_r) 1)]
theorem slices_pdqsortCmpFunc_api_Quota_c100016_eq (slices_pdqsortCmpFunc_api_Quota_r : ((Int) × (Int) × (Int) × (List (api_Quota)) × Unit) → Option ((List (api_Quota)) × Unit)) (s : AL_slices_pdqsortCmpFunc_api_Quota_c100016.S.ty.den) : @Eq (Option AL_slices_pdqsortCmpFunc_api_Quota_c100016.Out) ((evK (AF_slices_pdqsortCmpFunc_api_Quota slices_pdqsortCmpFunc_api_Quota_r) (AC_slices_pdqsortCmpFunc_api_Quota slices_pdqsortCmpFunc_api_Quota_r) (tailOf (bodyOf Tryz.f76) 100016) 1 (AL_slices_pdqsortCmpFunc_api_Quota_c100016.S.enc s)).bind fun (e, st) => AL_slices_pdqsortCmpFunc_api_Quota_c100016.out (AF_slices_pdqsortCmpFunc_api_Quota slices_pdqsortCmpFunc_api_Quota_r).m e st).val (slices_pdqsortCmpFunc_api_Quota_c100016 slices_pdqsortCmpFunc_api_Quota_r s) := by kernel_rfl
theorem slices_pdqsortCmpFunc_api_Quota_c100018_eq (slices_pdqsortCmpFunc_api_Quota_r : ((Int) × (Int) × (Int) × (List (api_Quota)) × Unit) → Option ((List (api_Quota)) × Unit)) (s : AL_slices_pdqsortCmpFunc_api_Quota_c100018.S.ty.den) : @Eq (Option AL_slices_pdqsortCmpFunc_api_Quota_c100018.Out) ((evK (AF_slices_pdqsortCmpFunc_api_Quota slices_pdqsortCmpFunc_api_Quota_r) (AC_slices_pdqsortCmpFunc_api_Quota slices_pdqsortCmpFunc_api_Quota_r) (tailOf (bodyOf Tryz.f76) 100018) 1 (AL_slices_pdqsortCmpFunc_api_Quota_c100018.S.enc s)).bind fun (e, st) => AL_slices_pdqsortCmpFunc_api_Quota_c100018.out (AF_slices_pdqsortCmpFunc_api_Quota slices_pdqsortCmpFunc_api_Quota_r).m e st).val (slices_pdqsortCmpFunc_api_Quota_c100018 slices_pdqsortCmpFunc_api_Quota_r s) := by kernel_rfl
theorem slices_pdqsortCmpFunc_api_Quota_c20_eq (slices_pdqsortCmpFunc_api_Quota_r : ((Int) × (Int) × (Int) × (List (api_Quota)) × Unit) → Option ((List (api_Quota)) × Unit)) (s : AL_slices_pdqsortCmpFunc_api_Quota_c20.S.ty.den) : @Eq (Option AL_slices_pdqsortCmpFunc_api_Quota_c20.Out) ((evK (AF_slices_pdqsortCmpFunc_api_Quota slices_pdqsortCmpFunc_api_Quota_r) (AC_slices_pdqsortCmpFunc_api_Quota slices_pdqsortCmpFunc_api_Quota_r) (tailOf (bodyOf Tryz.f76) 20) 1 (AL_slices_pdqsortCmpFunc_api_Quota_c20.S.enc s)).bind fun (e, st) => AL_slices_pdqsortCmpFunc_api_Quota_c20.out (AF_slices_pdqsortCmpFunc_api_Quota slices_pdqsortCmpFunc_api_Quota_r).m e st).val (slices_pdqsortCmpFunc_api_Quota_c20 slices_pdqsortCmpFunc_api_Quota_r s) := by kernel_rfl
theorem slices_pdqsortCmpFunc_api_Quota_c17_eq (slices_pdqsortCmpFunc_api_Quota_r : ((Int) × (Int) × (Int) × (List (api_Quota)) × Unit) → Option ((List (api_Quota)) × Unit)) (s : AL_slices_pdqsortCmpFunc_api_Quota_c17.S.ty.den) : @Eq (Option AL_slices_pdqsortCmpFunc_api_Quota_c17.Out) ((evK (AF_slices_pdqsortCmpFunc_api_Quota slices_pdqsortCmpFunc_api_Quota_r) (AC_slices_pdqsortCmpFunc_api_Quota slices_pdqsortCmpFunc_api_Quota_r) (tailOf (bodyOf Tryz.f76) 17) 1 (AL_slices_pdqsortCmpFunc_api_Quota_c17.S.enc s)).bind fun (e, st) => AL_slices_pdqsortCmpFunc_api_Quota_c17.out (AF_slices_pdqsortCmpFunc_api_Quota slices_pdqsortCmpFunc_api_Quota_r).m e st).val (slices_pdqsortCmpFunc_api_Quota_c17 slices_pdqsortCmpFunc_api_Quota_r s) := by kernel_rfl
theorem slices_pdqsortCmpFunc_api_Quota_b0_eq (slices_pdqsortCmpFunc_api_Quota_r : ((Int) × (Int) × (Int) × (List (api_Quota)) × Unit) → Option ((List (api_Quota)) × Unit)) (s : AL_slices_pdqsortCmpFunc_api_Quota_0.S.ty.den) : @Eq (Option (AL_slices_pdqsortCmpFunc_api_Quota_0.S.ty.den ⊕ AL_slices_pdqsortCmpFunc_api_Quota_0.Out)) (AL_slices_pdqsortCmpFunc_api_Quota_0.bodyK (AF_slices_pdqsortCmpFunc_api_Quota slices_pdqsortCmpFunc_api_Quota_r) (AC_slices_pdqsortCmpFunc_api_Quota slices_pdqsortCmpFunc_api_Quota_r) (loopAt (bodyOf Tryz.f76) 0) 0 s).val (slices_pdqsortCmpFunc_api_Quota_b0 slices_pdqsortCmpFunc_api_Quota_r s) := by kernel_rfl
theorem slices_pdqsortCmpFunc_api_Quota_eq (slices_pdqsortCmpFunc_api_Quota_r : ((Int) × (Int) × (Int) × (List (api_Quota)) × Unit) → Option ((List (api_Quota)) × Unit)) (s : AS_slices_pdqsortCmpFunc_api_Quota.ty.den) : @Eq (Option AZ_slices_pdqsortCmpFunc_api_Quota.ty.den) (evFnK (AF_slices_pdqsortCmpFunc_api_Quota slices_pdqsortCmpFunc_api_Quota_r) (AC_slices_pdqsortCmpFunc_api_Quota slices_pdqsortCmpFunc_api_Quota_r) Tryz.f76 AS_slices_pdqsortCmpFunc_api_Quota AZ_slices_pdqsortCmpFunc_api_Quota s).val (slices_pdqsortCmpFunc_api_Quota_step slices_pdqsortCmpFunc_api_Quota_r s) := by kernel_rfl
theorem slices_pdqsortCmpFunc_api_Quota_hG (slices_pdqsortCmpFunc_api_Quota_r : ((Int) × (Int) × (Int) × (List (api_Quota)) × Unit) → Option ((List (api_Quota)) × Unit)) (slices_pdqsortCmpFunc_api_Quota_r_ok : EntOK Tryz.prog (AE_slices_pdqsortCmpFunc_api_Quota_r slices_pdqsortCmpFunc_api_Quota_r)) : GSound Tryz.prog (AF_slices_pdqsortCmpFunc_api_Quota slices_pdqsortCmpFunc_api_Quota_r).Γ := ents_sound ⟨quota_byPath_ok, slices_insertionSortCmpFunc_api_Quota_ok, slices_heapSortCmpFunc_api_Quota_ok, slices_choosePivotCmpFunc_api_Quota_ok, slices_reverseRangeCmpFunc_api_Quota_ok, slices_partialInsertionSortCmpFunc_api_Quota_ok, slices_partitionEqualCmpFunc_api_Quota_ok, slices_partitionCmpFunc_api_Quota_ok, slices_breakPatternsCmpFunc_api_Quota_ok, slices_pdqsortCmpFunc_api_Quota_r_ok, trivial⟩
theorem slices_pdqsortCmpFunc_api_Quota_c100016_ok (slices_pdqsortCmpFunc_api_Quota_r : ((Int) × (Int) × (Int) × (List (api_Quota)) × Unit) → Option ((List (api_Quota)) × Unit)) (slices_pdqsortCmpFunc_api_Quota_r_ok : EntOK Tryz.prog (AE_slices_pdqsortCmpFunc_api_Quota_r slices_pdqsortCmpFunc_api_Quota_r)) : CutOK Tryz.prog (AF_slices_pdqsortCmpFunc_api_Quota slices_pdqsortCmpFunc_api_Quota_r) Tryz.f76.ntmps (AL_slices_pdqsortCmpFunc_api_Quota_c100016.go (slices_pdqsortCmpFunc_api_Quota_c100016 slices_pdqsortCmpFunc_api_Quota_r) 1) (tailOf (bodyOf Tryz.f76) 100016) :=
  cut_sound Atab (slices_pdqsortCmpFunc_api_Quota_hG slices_pdqsortCmpFunc_api_Quota_r slices_pdqsortCmpFunc_api_Quota_r_ok) Amixed (L := AL_slices_pdqsortCmpFunc_api_Quota_c100016) (k := 1) (f := slices_pdqsortCmpFunc_api_Quota_c100016 slices_pdqsortCmpFunc_api_Quota_r) (C := (AC_slices_pdqsortCmpFunc_api_Quota slices_pdqsortCmpFunc_api_Quota_r)) (l := []) (m := []) (by kernel_rfl) trivial (by kernel_rfl) trivial (by kernel_rfl) (slices_pdqsortCmpFunc_api_Quota_c100016_eq slices_pdqsortCmpFunc_api_Quota_r)
theorem slices_pdqsortCmpFunc_api_Quota_c100018_ok (slices_pdqsortCmpFunc_api_Quota_r : ((Int) × (Int) × (Int) × (List (api_Quota)) × Unit) → Option ((List (api_Quota)) × Unit)) (slices_pdqsortCmpFunc_api_Quota_r_ok : EntOK Tryz.prog (AE_slices_pdqsortCmpFunc_api_Quota_r slices_pdqsortCmpFunc_api_Quota_r)) : CutOK Tryz.prog (AF_slices_pdqsortCmpFunc_api_Quota slices_pdqsortCmpFunc_api_Quota_r) Tryz.f76.ntmps (AL_slices_pdqsortCmpFunc_api_Quota_c100018.go (slices_pdqsortCmpFunc_api_Quota_c100018 slices_pdqsortCmpFunc_api_Quota_r) 1) (tailOf (bodyOf Tryz.f76) 100018) :=
  cut_sound Atab (slices_pdqsortCmpFunc_api_Quota_hG slices_pdqsortCmpFunc_api_Quota_r slices_pdqsortCmpFunc_api_Quota_r_ok) Amixed (L := AL_slices_pdqsortCmpFunc_api_Quota_c100018) (k := 1) (f := slices_pdqsortCmpFunc_api_Quota_c100018 slices_pdqsortCmpFunc_api_Quota_r) (C := (AC_slices_pdqsortCmpFunc_api_Quota slices_pdqsortCmpFunc_api_Quota_r)) (l := []) (m := []) (by kernel_rfl) trivial (by kernel_rfl) trivial (by kernel_rfl) (slices_pdqsortCmpFunc_api_Quota_c100018_eq slices_pdqsortCmpFunc_api_Quota_r)
theorem slices_pdqsortCmpFunc_api_Quota_c20_ok (slices_pdqsortCmpFunc_api_Quota_r : ((Int) × (Int) × (Int) × (List (api_Quota)) × Unit) → Option ((List (api_Quota)) × Unit)) (slices_pdqsortCmpFunc_api_Quota_r_ok : EntOK Tryz.prog (AE_slices_pdqsortCmpFunc_api_Quota_r slices_pdqsortCmpFunc_api_Quota_r)) : CutOK Tryz.prog (AF_slices_pdqsortCmpFunc_api_Quota slices_pdqsortCmpFunc_api_Quota_r) Tryz.f76.ntmps (AL_slices_pdqsortCmpFunc_api_Quota_c20.go (slices_pdqsortCmpFunc_api_Quota_c20 slices_pdqsortCmpFunc_api_Quota_r) 1) (tailOf (bodyOf Tryz.f76) 20) :=
  cut_sound Atab (slices_pdqsortCmpFunc_api_Quota_hG slices_pdqsortCmpFunc_api_Quota_r slices_pdqsortCmpFunc_api_Quota_r_ok) Amixed (L := AL_slices_pdqsortCmpFunc_api_Quota_c20) (k := 1) (f := slices_pdqsortCmpFunc_api_Quota_c20 slices_pdqsortCmpFunc_api_Quota_r) (C := (AC_slices_pdqsortCmpFunc_api_Quota slices_pdqsortCmpFunc_api_Quota_r)) (l := []) (m := []) (by kernel_rfl) trivial (by kernel_rfl) trivial (by kernel_rfl) (slices_pdqsortCmpFunc_api_Quota_c20_eq slices_pdqsortCmpFunc_api_Quota_r)
theorem slices_pdqsortCmpFunc_api_Quota_c17_ok (slices_pdqsortCmpFunc_api_Quota_r : ((Int) × (Int) × (Int) × (List (api_Quota)) × Unit) → Option ((List (api_Quota)) × Unit)) (slices_pdqsortCmpFunc_api_Quota_r_ok : EntOK Tryz.prog (AE_slices_pdqsortCmpFunc_api_Quota_r slices_pdqsortCmpFunc_api_Quota_r)) : CutOK Tryz.prog (AF_slices_pdqsortCmpFunc_api_Quota slices_pdqsortCmpFunc_api_Quota_r) Tryz.f76.ntmps (AL_slices_pdqsortCmpFunc_api_Quota_c17.go (slices_pdqsortCmpFunc_api_Quota_c17 slices_pdqsortCmpFunc_api_Quota_r) 1) (tailOf (bodyOf Tryz.f76) 17) :=
  cut_sound Atab (slices_pdqsortCmpFunc_api_Quota_hG slices_pdqsortCmpFunc_api_Quota_r slices_pdqsortCmpFunc_api_Quota_r_ok) Amixed (L := AL_slices_pdqsortCmpFunc_api_Quota_c17) (k := 1) (f := slices_pdqsortCmpFunc_api_Quota_c17 slices_pdqsortCmpFunc_api_Quota_r) (C := (AC_slices_pdqsortCmpFunc_api_Quota slices_pdqsortCmpFunc_api_Quota_r)) (l := []) (m := [(AL_slices_pdqsortCmpFunc_api_Quota_c100018.go (slices_pdqsortCmpFunc_api_Quota_c100018 slices_pdqsortCmpFunc_api_Quota_r) 1, tailOf (bodyOf Tryz.f76) 100018), (AL_slices_pdqsortCmpFunc_api_Quota_c20.go (slices_pdqsortCmpFunc_api_Quota_c20 slices_pdqsortCmpFunc_api_Quota_r) 1, tailOf (bodyOf Tryz.f76) 20)]) (by kernel_rfl) trivial (by kernel_rfl) ⟨slices_pdqsortCmpFunc_api_Quota_c100018_ok slices_pdqsortCmpFunc_api_Quota_r slices_pdqsortCmpFunc_api_Quota_r_ok, slices_pdqsortCmpFunc_api_Quota_c20_ok slices_pdqsortCmpFunc_api_Quota_r slices_pdqsortCmpFunc_api_Quota_r_ok, trivial⟩ (by kernel_rfl) (slices_pdqsortCmpFunc_api_Quota_c17_eq slices_pdqsortCmpFunc_api_Quota_r)
theorem slices_pdqsortCmpFunc_api_Quota_la0 (slices_pdqsortCmpFunc_api_Quota_r : ((Int) × (Int) × (Int) × (List (api_Quota)) × Unit) → Option ((List (api_Quota)) × Unit)) (slices_pdqsortCmpFunc_api_Quota_r_ok : EntOK Tryz.prog (AE_slices_pdqsortCmpFunc_api_Quota_r slices_pdqsortCmpFunc_api_Quota_r)) : LamOK Tryz.prog (AF_slices_pdqsortCmpFunc_api_Quota slices_pdqsortCmpFunc_api_Quota_r) Tryz.f76.ntmps 0 (loopAt (bodyOf Tryz.f76) 0) :=
  lam_soundK Atab (slices_pdqsortCmpFunc_api_Quota_hG slices_pdqsortCmpFunc_api_Quota_r slices_pdqsortCmpFunc_api_Quota_r_ok) Amixed (L := AL_slices_pdqsortCmpFunc_api_Quota_0) (f := slices_pdqsortCmpFunc_api_Quota_l0 slices_pdqsortCmpFunc_api_Quota_r) (b := slices_pdqsortCmpFunc_api_Quota_b0 slices_pdqsortCmpFunc_api_Quota_r) (C := (AC_slices_pdqsortCmpFunc_api_Quota slices_pdqsortCmpFunc_api_Quota_r)) (l := []) (m := [(AL_slices_pdqsortCmpFunc_api_Quota_c100016.go (slices_pdqsortCmpFunc_api_Quota_c100016 slices_pdqsortCmpFunc_api_Quota_r) 1, tailOf (bodyOf Tryz.f76) 100016), (AL_slices_pdqsortCmpFunc_api_Quota_c17.go (slices_pdqsortCmpFunc_api_Quota_c17 slices_pdqsortCmpFunc_api_Quota_r) 1, tailOf (bodyOf Tryz.f76) 17)]) (fun _ => rfl) (by kernel_rfl) (by kernel_rfl) trivial (by kernel_rfl) ⟨slices_pdqsortCmpFunc_api_Quota_c100016_ok slices_pdqsortCmpFunc_api_Quota_r slices_pdqsortCmpFunc_api_Quota_r_ok, slices_pdqsortCmpFunc_api_Quota_c17_ok slices_pdqsortCmpFunc_api_Quota_r slices_pdqsortCmpFunc_api_Quota_r_ok, trivial⟩ (by kernel_rfl) (slices_pdqsortCmpFunc_api_Quota_b0_eq slices_pdqsortCmpFunc_api_Quota_r)
theorem slices_pdqsortCmpFunc_api_Quota_step_ok (slices_pdqsortCmpFunc_api_Quota_r : ((Int) × (Int) × (Int) × (List (api_Quota)) × Unit) → Option ((List (api_Quota)) × Unit)) (slices_pdqsortCmpFunc_api_Quota_r_ok : EntOK Tryz.prog (AE_slices_pdqsortCmpFunc_api_Quota_r slices_pdqsortCmpFunc_api_Quota_r)) : EntOK Tryz.prog ⟨76, AS_slices_pdqsortCmpFunc_api_Quota, AZ_slices_pdqsortCmpFunc_api_Quota, slices_pdqsortCmpFunc_api_Quota_step slices_pdqsortCmpFunc_api_Quota_r⟩ :=
  fun_soundK (C := (AC_slices_pdqsortCmpFunc_api_Quota slices_pdqsortCmpFunc_api_Quota_r)) (F := (AF_slices_pdqsortCmpFunc_api_Quota slices_pdqsortCmpFunc_api_Quota_r)) Atab (slices_pdqsortCmpFunc_api_Quota_hG slices_pdqsortCmpFunc_api_Quota_r slices_pdqsortCmpFunc_api_Quota_r_ok) Amixed (fn := Tryz.f76) (l := [(0, loopAt (bodyOf Tryz.f76) 0)]) (m := []) Tryz.func76 (by kernel_rfl) (by kernel_rfl) (by kernel_rfl) ⟨slices_pdqsortCmpFunc_api_Quota_la0 slices_pdqsortCmpFunc_api_Quota_r slices_pdqsortCmpFunc_api_Quota_r_ok, trivial⟩ (by kernel_rfl) trivial (by kernel_rfl) (slices_pdqsortCmpFunc_api_Quota_eq slices_pdqsortCmpFunc_api_Quota_r)
theorem slices_pdqsortCmpFunc_api_Quota_fuel_ok : ∀ n, EntOK Tryz.prog ⟨76, AS_slices_pdqsortCmpFunc_api_Quota, AZ_slices_pdqsortCmpFunc_api_Quota, slices_pdqsortCmpFunc_api_Quota_fuel n⟩
  | 0 => ent_none
  | n + 1 => slices_pdqsortCmpFunc_api_Quota_step_ok _ (slices_pdqsortCmpFunc_api_Quota_fuel_ok n)
theorem slices_pdqsortCmpFunc_api_Quota_ok : EntOK Tryz.prog AE_slices_pdqsortCmpFunc_api_Quota := slices_pdqsortCmpFunc_api_Quota_fuel_ok huge
def AS_slices_SortFunc_api_Quota_api_Quota : Shape := ⟨[(0, (.own tapi_Quota 0)), (1, (.fn 53 [] []))], [.arr 45 tapi_Quota false]⟩
def AZ_slices_SortFunc_api_Quota_api_Quota : Shape := ⟨[], [.arr 45 tapi_Quota false]⟩
def AE_slices_SortFunc_api_Quota_api_Quota : Ent := ⟨52, AS_slices_SortFunc_api_Quota_api_Quota, AZ_slices_SortFunc_api_Quota_api_Quota, slices_SortFunc_api_Quota_api_Quota⟩
def AF_slices_SortFunc_api_Quota_api_Quota : Fx := ⟨Acx, lookupG [AE_math_bits_Len, AE_quota_byPath, AE_slices_pdqsortCmpFunc_api_Quota], fun k st => .fail, fun _ => none, 1⟩
theorem slices_SortFunc_api_Quota_api_Quota_eq (s : AS_slices_SortFunc_api_Quota_api_Quota.ty.den) : @Eq (Option AZ_slices_SortFunc_api_Quota_api_Quota.ty.den) (evFn AF_slices_SortFunc_api_Quota_api_Quota Tryz.f52 AS_slices_SortFunc_api_Quota_api_Quota AZ_slices_SortFunc_api_Quota_api_Quota s).val (slices_SortFunc_api_Quota_api_Quota s) := by kernel_rfl
theorem slices_SortFunc_api_Quota_api_Quota_hG : GSound Tryz.prog AF_slices_SortFunc_api_Quota_api_Quota.Γ := ents_sound ⟨math_bits_Len_ok, quota_byPath_ok, slices_pdqsortCmpFunc_api_Quota_ok, trivial⟩
theorem slices_SortFunc_api_Quota_api_Quota_ok : EntOK Tryz.prog AE_slices_SortFunc_api_Quota_api_Quota :=
  fun_sound (F := AF_slices_SortFunc_api_Quota_api_Quota) Atab slices_SortFunc_api_Quota_api_Quota_hG Amixed (fn := Tryz.f52) (m := []) Tryz.func52 (by kernel_rfl) (by kernel_rfl) (by kernel_rfl) trivial (by kernel_rfl) slices_SortFunc_api_Quota_api_Quota_eq
def AL_quota_Moved_0 : Lp := ⟨⟨[(1, (.dat .str)), (2, (.dat .str)), (7, (.own tapi_Quota 0)), (12, (.dat (.list tapi_Quota))), (13, (.dat (.int .i64))), (14, (.dat (.int .i64)))], [.arr 45 tapi_Quota false]⟩, (.exit 0), ⟨[(7, (.own tapi_Quota 0))], [.arr 45 tapi_Quota false]⟩, (.exit 80000000), ⟨[], []⟩⟩
def AS_quota_Moved : Shape := ⟨[(0, (.dat (.list tapi_Quota))), (1, (.dat .str)), (2, (.dat .str))], []⟩
def AZ_quota_Moved : Shape := ⟨[(0, (.own tapi_Quota 0))], [.arr 45 tapi_Quota false]⟩
def AE_quota_Moved : Ent := ⟨19, AS_quota_Moved, AZ_quota_Moved, quota_Moved⟩
def AF_quota_Moved : Fx := ⟨Acx, lookupG [AE_span_Moved, AE_strings_HasPrefix, AE_slices_SortFunc_api_Quota_api_Quota], fun k st => bif Nat.beq k 0 then AL_quota_Moved_0.go (quota_Moved_l0) 0 st else .fail, fun _ => none, 0⟩
theorem quota_Moved_b0_eq (s : AL_quota_Moved_0.S.ty.den) : @Eq (Option (AL_quota_Moved_0.S.ty.den ⊕ AL_quota_Moved_0.Out)) (AL_quota_Moved_0.body AF_quota_Moved (loopAt (bodyOf Tryz.f19) 0) 0 s).val (quota_Moved_b0 s) := by kernel_rfl
theorem quota_Moved_eq (s : AS_quota_Moved.ty.den) : @Eq (Option AZ_quota_Moved.ty.den) (evFn AF_quota_Moved Tryz.f19 AS_quota_Moved AZ_quota_Moved s).val (quota_Moved s) := by kernel_rfl
theorem quota_Moved_hG : GSound Tryz.prog AF_quota_Moved.Γ := ents_sound ⟨span_Moved_ok, strings_HasPrefix_ok, slices_SortFunc_api_Quota_api_Quota_ok, trivial⟩
theorem quota_Moved_la0 : LamOK Tryz.prog AF_quota_Moved Tryz.f19.ntmps 0 (loopAt (bodyOf Tryz.f19) 0) :=
  lam_sound Atab quota_Moved_hG Amixed (L := AL_quota_Moved_0) (f := quota_Moved_l0) (b := quota_Moved_b0) (m := []) (fun _ => rfl) (by kernel_rfl) (by kernel_rfl) trivial (by kernel_rfl) quota_Moved_b0_eq
theorem quota_Moved_ok : EntOK Tryz.prog AE_quota_Moved :=
  fun_sound (F := AF_quota_Moved) Atab quota_Moved_hG Amixed (fn := Tryz.f19) (m := [(0, loopAt (bodyOf Tryz.f19) 0)]) Tryz.func19 (by kernel_rfl) (by kernel_rfl) (by kernel_rfl) ⟨quota_Moved_la0, trivial⟩ (by kernel_rfl) quota_Moved_eq
def AL_ref20_Same_0 : Lp := ⟨⟨[(0, (.dat (.list tapi_Quota))), (1, (.dat (.list tapi_Quota))), (5, (.dat (.int .i64)))], []⟩, .ret, ⟨[(4, (.dat .bool))], []⟩, (.exit 0), ⟨[], []⟩⟩
def AS_ref20_Same : Shape := ⟨[(0, (.dat (.list tapi_Quota))), (1, (.dat (.list tapi_Quota)))], []⟩
def AZ_ref20_Same : Shape := ⟨[(0, (.dat .bool))], []⟩
def AE_ref20_Same : Ent := ⟨18, AS_ref20_Same, AZ_ref20_Same, ref20_Same⟩
def AF_ref20_Same : Fx := ⟨Acx, lookupG [], fun k st => bif Nat.beq k 0 then AL_ref20_Same_0.go (ref20_Same_l0) 0 st else .fail, fun _ => none, 0⟩
theorem ref20_Same_b0_eq (s : AL_ref20_Same_0.S.ty.den) : @Eq (Option (AL_ref20_Same_0.S.ty.den ⊕ AL_ref20_Same_0.Out)) (AL_ref20_Same_0.body AF_ref20_Same (loopAt (bodyOf Tryz.f18) 0) 0 s).val (ref20_Same_b0 s) := by kernel_rfl
theorem ref20_Same_eq (s : AS_ref20_Same.ty.den) : @Eq (Option AZ_ref20_Same.ty.den) (evFn AF_ref20_Same Tryz.f18 AS_ref20_Same AZ_ref20_Same s).val (ref20_Same s) := by kernel_rfl
theorem ref20_Same_hG : GSound Tryz.prog AF_ref20_Same.Γ := ents_sound trivial
theorem ref20_Same_la0 : LamOK Tryz.prog AF_ref20_Same Tryz.f18.ntmps 0 (loopAt (bodyOf Tryz.f18) 0) :=
  lam_sound Atab ref20_Same_hG Amixed (L := AL_ref20_Same_0) (f := ref20_Same_l0) (b := ref20_Same_b0) (m := []) (fun _ => rfl) (by kernel_rfl) (by kernel_rfl) trivial (by kernel_rfl) ref20_Same_b0_eq
theorem ref20_Same_ok : EntOK Tryz.prog AE_ref20_Same :=
  fun_sound (F := AF_ref20_Same) Atab ref20_Same_hG Amixed (fn := Tryz.f18) (m := [(0, loopAt (bodyOf Tryz.f18) 0)]) Tryz.func18 (by kernel_rfl) (by kernel_rfl) (by kernel_rfl) ⟨ref20_Same_la0, trivial⟩ (by kernel_rfl) ref20_Same_eq
def AS_quota_amount_right : Shape := ⟨[(0, (.dat tquota_amount))], []⟩
def AZ_quota_amount_right : Shape := ⟨[(0, (.dat .bool))], []⟩
def AE_quota_amount_right : Ent := ⟨61, AS_quota_amount_right, AZ_quota_amount_right, quota_amount_right⟩
def AF_quota_amount_right : Fx := ⟨Acx, lookupG [], fun k st => .fail, fun _ => none, 0⟩
theorem quota_amount_right_eq (s : AS_quota_amount_right.ty.den) : @Eq (Option AZ_quota_amount_right.ty.den) (evFn AF_quota_amount_right Tryz.f61 AS_quota_amount_right AZ_quota_amount_right s).val (quota_amount_right s) := by kernel_rfl
theorem quota_amount_right_hG : GSound Tryz.prog AF_quota_amount_right.Γ := ents_sound trivial
theorem quota_amount_right_ok : EntOK Tryz.prog AE_quota_amount_right :=
  fun_sound (F := AF_quota_amount_right) Atab quota_amount_right_hG Amixed (fn := Tryz.f61) (m := []) Tryz.func61 (by kernel_rfl) (by kernel_rfl) (by kernel_rfl) trivial (by kernel_rfl) quota_amount_right_eq
def AL_slices_BinarySearchFunc_api_Quota_api_Quota_api_Quota_0 : Lp := ⟨⟨[(0, (.dat (.list tapi_Quota))), (2, (.fn 53 [] [])), (4, (.ptr 0 tapi_Quota 0 [])), (8, (.dat (.int .i64))), (9, (.dat (.int .i64))), (10, (.dat (.int .i64)))], [.box 45 tapi_Quota (.dat tapi_Quota)]⟩, (.exit 0), ⟨[(0, (.dat (.list tapi_Quota))), (2, (.fn 53 [] [])), (4, (.ptr 0 tapi_Quota 0 [])), (8, (.dat (.int .i64))), (9, (.dat (.int .i64)))], [.box 45 tapi_Quota (.dat tapi_Quota)]⟩, (.exit 80000000), ⟨[], []⟩⟩
def AS_slices_BinarySearchFunc_api_Quota_api_Quota_api_Quota : Shape := ⟨[(0, (.dat (.list tapi_Quota))), (1, (.dat tapi_Quota)), (2, (.fn 53 [] []))], []⟩
def AZ_slices_BinarySearchFunc_api_Quota_api_Quota_api_Quota : Shape := ⟨[(0, (.dat (.int .i64))), (1, (.dat .bool))], []⟩
def AE_slices_BinarySearchFunc_api_Quota_api_Quota_api_Quota : Ent := ⟨63, AS_slices_BinarySearchFunc_api_Quota_api_Quota_api_Quota, AZ_slices_BinarySearchFunc_api_Quota_api_Quota_api_Quota, slices_BinarySearchFunc_api_Quota_api_Quota_api_Quota⟩
def AF_slices_BinarySearchFunc_api_Quota_api_Quota_api_Quota : Fx := ⟨Acx, lookupG [AE_quota_byPath], fun k st => bif Nat.beq k 0 then AL_slices_BinarySearchFunc_api_Quota_api_Quota_api_Quota_0.go (slices_BinarySearchFunc_api_Quota_api_Quota_api_Quota_l0) 0 st else .fail, fun _ => none, 0⟩
theorem slices_BinarySearchFunc_api_Quota_api_Quota_api_Quota_b0_eq (s : AL_slices_BinarySearchFunc_api_Quota_api_Quota_api_Quota_0.S.ty.den) : @Eq (Option (AL_slices_BinarySearchFunc_api_Quota_api_Quota_api_Quota_0.S.ty.den ⊕ AL_slices_BinarySearchFunc_api_Quota_api_Quota_api_Quota_0.Out)) (AL_slices_BinarySearchFunc_api_Quota_api_Quota_api_Quota_0.body AF_slices_BinarySearchFunc_api_Quota_api_Quota_api_Quota (loopAt (bodyOf Tryz.f63) 0) 0 s).val (slices_BinarySearchFunc_api_Quota_api_Quota_api_Quota_b0 s) := by kernel_rfl
theorem slices_BinarySearchFunc_api_Quota_api_Quota_api_Quota_eq (s : AS_slices_BinarySearchFunc_api_Quota_api_Quota_api_Quota.ty.den) : @Eq (Option AZ_slices_BinarySearchFunc_api_Quota_api_Quota_api_Quota.ty.den) (evFn AF_slices_BinarySearchFunc_api_Quota_api_Quota_api_Quota Tryz.f63 AS_slices_BinarySearchFunc_api_Quota_api_Quota_api_Quota AZ_slices_BinarySearchFunc_api_Quota_api_Quota_api_Quota s).val (slices_BinarySearchFunc_api_Quota_api_Quota_api_Quota s) := by kernel_rfl
theorem slices_BinarySearchFunc_api_Quota_api_Quota_api_Quota_hG : GSound Tryz.prog AF_slices_BinarySearchFunc_api_Quota_api_Quota_api_Quota.Γ := ents_sound ⟨quota_byPath_ok, trivial⟩
theorem slices_BinarySearchFunc_api_Quota_api_Quota_api_Quota_la0 : LamOK Tryz.prog AF_slices_BinarySearchFunc_api_Quota_api_Quota_api_Quota Tryz.f63.ntmps 0 (loopAt (bodyOf Tryz.f63) 0) :=
  lam_sound Atab slices_BinarySearchFunc_api_Quota_api_Quota_api_Quota_hG Amixed (L := AL_slices_BinarySearchFunc_api_Quota_api_Quota_api_Quota_0) (f := slices_BinarySearchFunc_api_Quota_api_Quota_api_Quota_l0) (b := slices_BinarySearchFunc_api_Quota_api_Quota_api_Quota_b0) (m := []) (fun _ => rfl) (by kernel_rfl) (by kernel_rfl) trivial (by kernel_rfl) slices_BinarySearchFunc_api_Quota_api_Quota_api_Quota_b0_eq
theorem slices_BinarySearchFunc_api_Quota_api_Quota_api_Quota_ok : EntOK Tryz.prog AE_slices_BinarySearchFunc_api_Quota_api_Quota_api_Quota :=
  fun_sound (F := AF_slices_BinarySearchFunc_api_Quota_api_Quota_api_Quota) Atab slices_BinarySearchFunc_api_Quota_api_Quota_api_Quota_hG Amixed (fn := Tryz.f63) (m := [(0, loopAt (bodyOf Tryz.f63) 0)]) Tryz.func63 (by kernel_rfl) (by kernel_rfl) (by kernel_rfl) ⟨slices_BinarySearchFunc_api_Quota_api_Quota_api_Quota_la0, trivial⟩ (by kernel_rfl) slices_BinarySearchFunc_api_Quota_api_Quota_api_Quota_eq
def AS_slices_Clone_api_Quota_api_Quota : Shape := ⟨[(0, (.dat (.list tapi_Quota)))], []⟩
def AZ_slices_Clone_api_Quota_api_Quota : Shape := ⟨[(0, (.own tapi_Quota 0))], [.arr 45 tapi_Quota false]⟩
def AE_slices_Clone_api_Quota_api_Quota : Ent := ⟨64, AS_slices_Clone_api_Quota_api_Quota, AZ_slices_Clone_api_Quota_api_Quota, slices_Clone_api_Quota_api_Quota⟩
def AF_slices_Clone_api_Quota_api_Quota : Fx := ⟨Acx, lookupG [], fun _ _ => .fail, fun _ => none, 0⟩
theorem slices_Clone_api_Quota_api_Quota_ok : EntOK Tryz.prog AE_slices_Clone_api_Quota_api_Quota :=
  clone_ent (F := AF_slices_Clone_api_Quota_api_Quota) Atab (ents_sound trivial) Amixed (fn := Tryz.f64) Tryz.func64 (by kernel_rfl) (by kernel_rfl) (by kernel_rfl) (by kernel_rfl) (fun s => (decide ((List.length ([] : List (api_Quota)) + List.length s.1) * 32 ≤ roomMax))) (fun s => (s.1, ())) (fun s => ([], ())) (fun s => List.length s.1) (fun s => rfl) (fun s => by kernel_rfl) (fun s => by kernel_rfl) (fun s h => congrArg (fun l => (l, ())) (List.eq_nil_of_length_eq_zero h).symm)
def AS_slices_Delete_api_Quota_api_Quota : Shape := ⟨[(0, (.own tapi_Quota 0)), (1, (.dat (.int .i64))), (2, (.dat (.int .i64)))], [.arr 45 tapi_Quota false]⟩
def AZ_slices_Delete_api_Quota_api_Quota : Shape := ⟨[(0, (.own tapi_Quota 1))], [.gone, .arr 45 tapi_Quota false]⟩
def AE_slices_Delete_api_Quota_api_Quota : Ent := ⟨65, AS_slices_Delete_api_Quota_api_Quota, AZ_slices_Delete_api_Quota_api_Quota, slices_Delete_api_Quota_api_Quota⟩
def AF_slices_Delete_api_Quota_api_Quota : Fx := ⟨Acx, lookupG [], fun k st => .fail, fun _ => none, 1⟩
theorem slices_Delete_api_Quota_api_Quota_eq (s : AS_slices_Delete_api_Quota_api_Quota.ty.den) : @Eq (Option AZ_slices_Delete_api_Quota_api_Quota.ty.den) (evFn AF_slices_Delete_api_Quota_api_Quota Tryz.f65 AS_slices_Delete_api_Quota_api_Quota AZ_slices_Delete_api_Quota_api_Quota s).val (slices_Delete_api_Quota_api_Quota s) := by kernel_rfl
theorem slices_Delete_api_Quota_api_Quota_hG : GSound Tryz.prog AF_slices_Delete_api_Quota_api_Quota.Γ := ents_sound trivial
theorem slices_Delete_api_Quota_api_Quota_ok : EntOK Tryz.prog AE_slices_Delete_api_Quota_api_Quota :=
  fun_sound (F := AF_slices_Delete_api_Quota_api_Quota) Atab slices_Delete_api_Quota_api_Quota_hG Amixed (fn := Tryz.f65) (m := []) Tryz.func65 (by kernel_rfl) (by kernel_rfl) (by kernel_rfl) trivial (by kernel_rfl) slices_Delete_api_Quota_api_Quota_eq
def AS_slices_Insert_api_Quota_api_Quota : Shape := ⟨[(0, (.own tapi_Quota 0)), (1, (.dat (.int .i64))), (2, (.own tapi_Quota 1))], [.arr 45 tapi_Quota false, .arr 45 tapi_Quota false]⟩
def AZ_slices_Insert_api_Quota_api_Quota : Shape := ⟨[(0, (.own tapi_Quota 2))], [.gone, .arr 45 tapi_Quota false, .arr 45 tapi_Quota false]⟩
def AE_slices_Insert_api_Quota_api_Quota : Ent := ⟨66, AS_slices_Insert_api_Quota_api_Quota, AZ_slices_Insert_api_Quota_api_Quota, slices_Insert_api_Quota_api_Quota⟩
def AF_slices_Insert_api_Quota_api_Quota : Fx := ⟨Acx, addG 84 (ovG tapi_Quota) (lookupG []), fun _ _ => .fail, fun _ => none, 2⟩
theorem slices_Insert_api_Quota_api_Quota_hG : GSound Tryz.prog AF_slices_Insert_api_Quota_api_Quota.Γ := addX_sound (ov_ent Atab (T := 27) (T2 := 4) (t := tapi_Quota) (by kernel_rfl) (by kernel_rfl) Tryz.func84 (by kernel_rfl) (by kernel_rfl) (by kernel_rfl) (by kernel_rfl)) (ents_sound trivial)
theorem slices_Insert_api_Quota_api_Quota_ok : EntOK Tryz.prog AE_slices_Insert_api_Quota_api_Quota :=
  insert_ent (F := AF_slices_Insert_api_Quota_api_Quota) (e := 45) (t := tapi_Quota) (bytes := 32) Atab slices_Insert_api_Quota_api_Quota_hG Amixed (by kernel_rfl) (by kernel_rfl) (fn := Tryz.f66) Tryz.func66 (by kernel_rfl) (by kernel_rfl) (by kernel_rfl) (by kernel_rfl) (by kernel_rfl) rfl (fun i xs ys => by kernel_rfl) (fun i xs z ys => by kernel_rfl)
def AS_quota_Set : Shape := ⟨[(0, (.dat (.list tapi_Quota))), (1, (.dat tapi_Quota))], []⟩
def AZ_quota_Set : Shape := ⟨[(0, (.dat (.list tapi_Quota))), (1, (.dat (.int .i64)))], []⟩
def AE_quota_Set : Ent := ⟨27, AS_quota_Set, AZ_quota_Set, quota_Set⟩
def AF_quota_Set : Fx := ⟨Acx, lookupG [AE_path_Valid, AE_quota_amount_right, AE_slices_BinarySearchFunc_api_Quota_api_Quota_api_Quota, AE_slices_Clone_api_Quota_api_Quota, AE_slices_Delete_api_Quota_api_Quota, AE_slices_Insert_api_Quota_api_Quota], fun k st => .fail, fun _ => none, 0⟩
theorem quota_Set_eq (s : AS_quota_Set.ty.den) : @Eq (Option AZ_quota_Set.ty.den) (evFn AF_quota_Set Tryz.f27 AS_quota_Set AZ_quota_Set s).val (quota_Set s) := by kernel_rfl
theorem quota_Set_hG : GSound Tryz.prog AF_quota_Set.Γ := ents_sound ⟨path_Valid_ok, quota_amount_right_ok, slices_BinarySearchFunc_api_Quota_api_Quota_api_Quota_ok, slices_Clone_api_Quota_api_Quota_ok, slices_Delete_api_Quota_api_Quota_ok, slices_Insert_api_Quota_api_Quota_ok, trivial⟩
theorem quota_Set_ok : EntOK Tryz.prog AE_quota_Set :=
  fun_sound (F := AF_quota_Set) Atab quota_Set_hG Amixed (fn := Tryz.f27) (m := []) Tryz.func27 (by kernel_rfl) (by kernel_rfl) (by kernel_rfl) trivial (by kernel_rfl) quota_Set_eq
def AL_quota_Valid_0 : Lp := ⟨⟨[(0, (.dat (.list tapi_Quota))), (5, (.dat (.list tapi_Quota))), (6, (.dat (.int .i64))), (7, (.dat (.int .i64)))], []⟩, .ret, ⟨[(2, (.dat .bool))], []⟩, (.exit 0), ⟨[(0, (.dat (.list tapi_Quota)))], []⟩⟩
def AS_quota_Valid : Shape := ⟨[(0, (.dat (.list tapi_Quota)))], []⟩
def AZ_quota_Valid : Shape := ⟨[(0, (.dat .bool))], []⟩
def AE_quota_Valid : Ent := ⟨25, AS_quota_Valid, AZ_quota_Valid, quota_Valid⟩
def AF_quota_Valid : Fx := ⟨Acx, lookupG [AE_path_Valid, AE_quota_byPath, AE_quota_amount_right], fun k st => bif Nat.beq k 0 then AL_quota_Valid_0.go (quota_Valid_l0) 0 st else .fail, fun _ => none, 0⟩
theorem quota_Valid_b0_eq (s : AL_quota_Valid_0.S.ty.den) : @Eq (Option (AL_quota_Valid_0.S.ty.den ⊕ AL_quota_Valid_0.Out)) (AL_quota_Valid_0.body AF_quota_Valid (loopAt (bodyOf Tryz.f25) 0) 0 s).val (quota_Valid_b0 s) := by kernel_rfl
theorem quota_Valid_eq (s : AS_quota_Valid.ty.den) : @Eq (Option AZ_quota_Valid.ty.den) (evFn AF_quota_Valid Tryz.f25 AS_quota_Valid AZ_quota_Valid s).val (quota_Valid s) := by kernel_rfl
theorem quota_Valid_hG : GSound Tryz.prog AF_quota_Valid.Γ := ents_sound ⟨path_Valid_ok, quota_byPath_ok, quota_amount_right_ok, trivial⟩
theorem quota_Valid_la0 : LamOK Tryz.prog AF_quota_Valid Tryz.f25.ntmps 0 (loopAt (bodyOf Tryz.f25) 0) :=
  lam_sound Atab quota_Valid_hG Amixed (L := AL_quota_Valid_0) (f := quota_Valid_l0) (b := quota_Valid_b0) (m := []) (fun _ => rfl) (by kernel_rfl) (by kernel_rfl) trivial (by kernel_rfl) quota_Valid_b0_eq
theorem quota_Valid_ok : EntOK Tryz.prog AE_quota_Valid :=
  fun_sound (F := AF_quota_Valid) Atab quota_Valid_hG Amixed (fn := Tryz.f25) (m := [(0, loopAt (bodyOf Tryz.f25) 0)]) Tryz.func25 (by kernel_rfl) (by kernel_rfl) (by kernel_rfl) ⟨quota_Valid_la0, trivial⟩ (by kernel_rfl) quota_Valid_eq

end D
/- Entries, by program. -/
set_option linter.unusedVariables false
set_option maxRecDepth 100000
open Go Go.X Go.Proofs D
namespace D
def AL_law20_sanity_c5 : Lp := ⟨⟨[(3, (.dat .bool)), (4, (.dat .bool))], []⟩, .ret, ⟨[(0, (.dat .bool))], []⟩, (.exit 90000005), ⟨[], []⟩⟩
def AL_law20_sanity_c4 : Lp := ⟨⟨[(1, (.own tapi_Pair 0)), (2, (.own tapi_Msg 1)), (3, (.dat .bool))], [.arr 58 tapi_Pair true, .arr 38 tapi_Msg false]⟩, .ret, ⟨[(0, (.dat .bool))], []⟩, (.exit 90000004), ⟨[], []⟩⟩
def AS_law20_sanity : Shape := ⟨[], []⟩
def AZ_law20_sanity : Shape := ⟨[(0, (.dat .bool))], []⟩
def AE_law20_sanity : Ent := ⟨11, AS_law20_sanity, AZ_law20_sanity, law20_sanity⟩
def AF_law20_sanity (x_law20_sample : (Unit) → Option ((List (api_Pair)) × Unit)) (x_quota_Of : ((List (api_Pair)) × (List UInt8) × Unit) → Option (quota_amount)) (x_law20_q : ((List UInt8) × (Int) × (Int) × Unit) → Option ((api_Quota) × Unit)) (x_quota_Fits : ((List (api_Pair)) × (List (api_Quota)) × Unit) → Option ((Bool) × Unit)) (x_quota_Allows : ((List (api_Pair)) × (List (api_Quota)) × (List (api_Msg)) × Unit) → Option ((Bool) × Unit)) (x_quota_Moved : ((List (api_Quota)) × (List UInt8) × (List UInt8) × Unit) → Option ((List (api_Quota)) × Unit)) (x_ref20_Same : ((List (api_Quota)) × (List (api_Quota)) × Unit) → Option ((Bool) × Unit)) (x_quota_Set : ((List (api_Quota)) × (api_Quota) × Unit) → Option ((List (api_Quota)) × (Int) × Unit)) (x_quota_Valid : ((List (api_Quota)) × Unit) → Option ((Bool) × Unit)) : Fx := ⟨Acx, lookupG [⟨45, AS_law20_sample, AZ_law20_sample, x_law20_sample⟩, ⟨15, AS_quota_Of, AZ_quota_Of, x_quota_Of⟩, ⟨39, AS_law20_q, AZ_law20_q, x_law20_q⟩, ⟨21, AS_quota_Fits, AZ_quota_Fits, x_quota_Fits⟩, ⟨23, AS_quota_Allows, AZ_quota_Allows, x_quota_Allows⟩, ⟨19, AS_quota_Moved, AZ_quota_Moved, x_quota_Moved⟩, ⟨18, AS_ref20_Same, AZ_ref20_Same, x_ref20_Same⟩, ⟨27, AS_quota_Set, AZ_quota_Set, x_quota_Set⟩, ⟨25, AS_quota_Valid, AZ_quota_Valid, x_quota_Valid⟩], fun k st => .fail, fun _ => none, 0⟩
def AC_law20_sanity (x_law20_sample : (Unit) → Option ((List (api_Pair)) × Unit)) (x_quota_Of : ((List (api_Pair)) × (List UInt8) × Unit) → Option (quota_amount)) (x_law20_q : ((List UInt8) × (Int) × (Int) × Unit) → Option ((api_Quota) × Unit)) (x_quota_Fits : ((List (api_Pair)) × (List (api_Quota)) × Unit) → Option ((Bool) × Unit)) (x_quota_Allows : ((List (api_Pair)) × (List (api_Quota)) × (List (api_Msg)) × Unit) → Option ((Bool) × Unit)) (x_quota_Moved : ((List (api_Quota)) × (List UInt8) × (List UInt8) × Unit) → Option ((List (api_Quota)) × Unit)) (x_ref20_Same : ((List (api_Quota)) × (List (api_Quota)) × Unit) → Option ((Bool) × Unit)) (x_quota_Set : ((List (api_Quota)) × (api_Quota) × Unit) → Option ((List (api_Quota)) × (Int) × Unit)) (x_quota_Valid : ((List (api_Quota)) × Unit) → Option ((Bool) × Unit)) : Cuts := [(5, AL_law20_sanity_c5.go (law20_sanity_c5 x_law20_sample x_quota_Of x_law20_q x_quota_Fits x_quota_Allows x_quota_Moved x_ref20_Same x_quota_Set x_quota_Valid) 0), (4, AL_law20_sanity_c4.go (law20_sanity_c4 x_law20_sample x_quota_Of x_law20_q x_quota_Fits x_quota_Allows x_quota_Moved x_ref20_Same x_quota_Set x_quota_Valid) 0)]
theorem law20_sanity_c5_eq (x_law20_sample : (Unit) → Option ((List (api_Pair)) × Unit)) (x_quota_Of : ((List (api_Pair)) × (List UInt8) × Unit) → Option (quota_amount)) (x_law20_q : ((List UInt8) × (Int) × (Int) × Unit) → Option ((api_Quota) × Unit)) (x_quota_Fits : ((List (api_Pair)) × (List (api_Quota)) × Unit) → Option ((Bool) × Unit)) (x_quota_Allows : ((List (api_Pair)) × (List (api_Quota)) × (List (api_Msg)) × Unit) → Option ((Bool) × Unit)) (x_quota_Moved : ((List (api_Quota)) × (List UInt8) × (List UInt8) × Unit) → Option ((List (api_Quota)) × Unit)) (x_ref20_Same : ((List (api_Quota)) × (List (api_Quota)) × Unit) → Option ((Bool) × Unit)) (x_quota_Set : ((List (api_Quota)) × (api_Quota) × Unit) → Option ((List (api_Quota)) × (Int) × Unit)) (x_quota_Valid : ((List (api_Quota)) × Unit) → Option ((Bool) × Unit)) (s : AL_law20_sanity_c5.S.ty.den) : @Eq (Option AL_law20_sanity_c5.Out) ((evK (AF_law20_sanity x_law20_sample x_quota_Of x_law20_q x_quota_Fits x_quota_Allows x_quota_Moved x_ref20_Same x_quota_Set x_quota_Valid) (AC_law20_sanity x_law20_sample x_quota_Of x_law20_q x_quota_Fits x_quota_Allows x_quota_Moved x_ref20_Same x_quota_Set x_quota_Valid) (tailOf (bodyOf Tryz.f11) 5) 0 (AL_law20_sanity_c5.S.enc s)).bind fun (e, st) => AL_law20_sanity_c5.out (AF_law20_sanity x_law20_sample x_quota_Of x_law20_q x_quota_Fits x_quota_Allows x_quota_Moved x_ref20_Same x_quota_Set x_quota_Valid).m e st).val (law20_sanity_c5 x_law20_sample x_quota_Of x_law20_q x_quota_Fits x_quota_Allows x_quota_Moved x_ref20_Same x_quota_Set x_quota_Valid s) := by kernel_rfl
theorem law20_sanity_c4_eq (x_law20_sample : (Unit) → Option ((List (api_Pair)) × Unit)) (x_quota_Of : ((List (api_Pair)) × (List UInt8) × Unit) → Option (quota_amount)) (x_law20_q : ((List UInt8) × (Int) × (Int) × Unit) → Option ((api_Quota) × Unit)) (x_quota_Fits : ((List (api_Pair)) × (List (api_Quota)) × Unit) → Option ((Bool) × Unit)) (x_quota_Allows : ((List (api_Pair)) × (List (api_Quota)) × (List (api_Msg)) × Unit) → Option ((Bool) × Unit)) (x_quota_Moved : ((List (api_Quota)) × (List UInt8) × (List UInt8) × Unit) → Option ((List (api_Quota)) × Unit)) (x_ref20_Same : ((List (api_Quota)) × (List (api_Quota)) × Unit) → Option ((Bool) × Unit)) (x_quota_Set : ((List (api_Quota)) × (api_Quota) × Unit) → Option ((List (api_Quota)) × (Int) × Unit)) (x_quota_Valid : ((List (api_Quota)) × Unit) → Option ((Bool) × Unit)) (s : AL_law20_sanity_c4.S.ty.den) : @Eq (Option AL_law20_sanity_c4.Out) ((evK (AF_law20_sanity x_law20_sample x_quota_Of x_law20_q x_quota_Fits x_quota_Allows x_quota_Moved x_ref20_Same x_quota_Set x_quota_Valid) (AC_law20_sanity x_law20_sample x_quota_Of x_law20_q x_quota_Fits x_quota_Allows x_quota_Moved x_ref20_Same x_quota_Set x_quota_Valid) (tailOf (bodyOf Tryz.f11) 4) 0 (AL_law20_sanity_c4.S.enc s)).bind fun (e, st) => AL_law20_sanity_c4.out (AF_law20_sanity x_law20_sample x_quota_Of x_law20_q x_quota_Fits x_quota_Allows x_quota_Moved x_ref20_Same x_quota_Set x_quota_Valid).m e st).val (law20_sanity_c4 x_law20_sample x_quota_Of x_law20_q x_quota_Fits x_quota_Allows x_quota_Moved x_ref20_Same x_quota_Set x_quota_Valid s) := by kernel_rfl
theorem law20_sanity_eq (x_law20_sample : (Unit) → Option ((List (api_Pair)) × Unit)) (x_quota_Of : ((List (api_Pair)) × (List UInt8) × Unit) → Option (quota_amount)) (x_law20_q : ((List UInt8) × (Int) × (Int) × Unit) → Option ((api_Quota) × Unit)) (x_quota_Fits : ((List (api_Pair)) × (List (api_Quota)) × Unit) → Option ((Bool) × Unit)) (x_quota_Allows : ((List (api_Pair)) × (List (api_Quota)) × (List (api_Msg)) × Unit) → Option ((Bool) × Unit)) (x_quota_Moved : ((List (api_Quota)) × (List UInt8) × (List UInt8) × Unit) → Option ((List (api_Quota)) × Unit)) (x_ref20_Same : ((List (api_Quota)) × (List (api_Quota)) × Unit) → Option ((Bool) × Unit)) (x_quota_Set : ((List (api_Quota)) × (api_Quota) × Unit) → Option ((List (api_Quota)) × (Int) × Unit)) (x_quota_Valid : ((List (api_Quota)) × Unit) → Option ((Bool) × Unit)) (s : AS_law20_sanity.ty.den) : @Eq (Option AZ_law20_sanity.ty.den) (evFnK (AF_law20_sanity x_law20_sample x_quota_Of x_law20_q x_quota_Fits x_quota_Allows x_quota_Moved x_ref20_Same x_quota_Set x_quota_Valid) (AC_law20_sanity x_law20_sample x_quota_Of x_law20_q x_quota_Fits x_quota_Allows x_quota_Moved x_ref20_Same x_quota_Set x_quota_Valid) Tryz.f11 AS_law20_sanity AZ_law20_sanity s).val (law20_sanity_step x_law20_sample x_quota_Of x_law20_q x_quota_Fits x_quota_Allows x_quota_Moved x_ref20_Same x_quota_Set x_quota_Valid s) := by kernel_rfl
theorem law20_sanity_hG (x_law20_sample : (Unit) → Option ((List (api_Pair)) × Unit)) (x_law20_sample_ok : EntOK Tryz.prog ⟨45, AS_law20_sample, AZ_law20_sample, x_law20_sample⟩) (x_quota_Of : ((List (api_Pair)) × (List UInt8) × Unit) → Option (quota_amount)) (x_quota_Of_ok : EntOK Tryz.prog ⟨15, AS_quota_Of, AZ_quota_Of, x_quota_Of⟩) (x_law20_q : ((List UInt8) × (Int) × (Int) × Unit) → Option ((api_Quota) × Unit)) (x_law20_q_ok : EntOK Tryz.prog ⟨39, AS_law20_q, AZ_law20_q, x_law20_q⟩) (x_quota_Fits : ((List (api_Pair)) × (List (api_Quota)) × Unit) → Option ((Bool) × Unit)) (x_quota_Fits_ok : EntOK Tryz.prog ⟨21, AS_quota_Fits, AZ_quota_Fits, x_quota_Fits⟩) (x_quota_Allows : ((List (api_Pair)) × (List (api_Quota)) × (List (api_Msg)) × Unit) → Option ((Bool) × Unit)) (x_quota_Allows_ok : EntOK Tryz.prog ⟨23, AS_quota_Allows, AZ_quota_Allows, x_quota_Allows⟩) (x_quota_Moved : ((List (api_Quota)) × (List UInt8) × (List UInt8) × Unit) → Option ((List (api_Quota)) × Unit)) (x_quota_Moved_ok : EntOK Tryz.prog ⟨19, AS_quota_Moved, AZ_quota_Moved, x_quota_Moved⟩) (x_ref20_Same : ((List (api_Quota)) × (List (api_Quota)) × Unit) → Option ((Bool) × Unit)) (x_ref20_Same_ok : EntOK Tryz.prog ⟨18, AS_ref20_Same, AZ_ref20_Same, x_ref20_Same⟩) (x_quota_Set : ((List (api_Quota)) × (api_Quota) × Unit) → Option ((List (api_Quota)) × (Int) × Unit)) (x_quota_Set_ok : EntOK Tryz.prog ⟨27, AS_quota_Set, AZ_quota_Set, x_quota_Set⟩) (x_quota_Valid : ((List (api_Quota)) × Unit) → Option ((Bool) × Unit)) (x_quota_Valid_ok : EntOK Tryz.prog ⟨25, AS_quota_Valid, AZ_quota_Valid, x_quota_Valid⟩) : GSound Tryz.prog (AF_law20_sanity x_law20_sample x_quota_Of x_law20_q x_quota_Fits x_quota_Allows x_quota_Moved x_ref20_Same x_quota_Set x_quota_Valid).Γ := ents_sound ⟨x_law20_sample_ok, x_quota_Of_ok, x_law20_q_ok, x_quota_Fits_ok, x_quota_Allows_ok, x_quota_Moved_ok, x_ref20_Same_ok, x_quota_Set_ok, x_quota_Valid_ok, trivial⟩
theorem law20_sanity_c5_ok (x_law20_sample : (Unit) → Option ((List (api_Pair)) × Unit)) (x_law20_sample_ok : EntOK Tryz.prog ⟨45, AS_law20_sample, AZ_law20_sample, x_law20_sample⟩) (x_quota_Of : ((List (api_Pair)) × (List UInt8) × Unit) → Option (quota_amount)) (x_quota_Of_ok : EntOK Tryz.prog ⟨15, AS_quota_Of, AZ_quota_Of, x_quota_Of⟩) (x_law20_q : ((List UInt8) × (Int) × (Int) × Unit) → Option ((api_Quota) × Unit)) (x_law20_q_ok : EntOK Tryz.prog ⟨39, AS_law20_q, AZ_law20_q, x_law20_q⟩) (x_quota_Fits : ((List (api_Pair)) × (List (api_Quota)) × Unit) → Option ((Bool) × Unit)) (x_quota_Fits_ok : EntOK Tryz.prog ⟨21, AS_quota_Fits, AZ_quota_Fits, x_quota_Fits⟩) (x_quota_Allows : ((List (api_Pair)) × (List (api_Quota)) × (List (api_Msg)) × Unit) → Option ((Bool) × Unit)) (x_quota_Allows_ok : EntOK Tryz.prog ⟨23, AS_quota_Allows, AZ_quota_Allows, x_quota_Allows⟩) (x_quota_Moved : ((List (api_Quota)) × (List UInt8) × (List UInt8) × Unit) → Option ((List (api_Quota)) × Unit)) (x_quota_Moved_ok : EntOK Tryz.prog ⟨19, AS_quota_Moved, AZ_quota_Moved, x_quota_Moved⟩) (x_ref20_Same : ((List (api_Quota)) × (List (api_Quota)) × Unit) → Option ((Bool) × Unit)) (x_ref20_Same_ok : EntOK Tryz.prog ⟨18, AS_ref20_Same, AZ_ref20_Same, x_ref20_Same⟩) (x_quota_Set : ((List (api_Quota)) × (api_Quota) × Unit) → Option ((List (api_Quota)) × (Int) × Unit)) (x_quota_Set_ok : EntOK Tryz.prog ⟨27, AS_quota_Set, AZ_quota_Set, x_quota_Set⟩) (x_quota_Valid : ((List (api_Quota)) × Unit) → Option ((Bool) × Unit)) (x_quota_Valid_ok : EntOK Tryz.prog ⟨25, AS_quota_Valid, AZ_quota_Valid, x_quota_Valid⟩) : CutOK Tryz.prog (AF_law20_sanity x_law20_sample x_quota_Of x_law20_q x_quota_Fits x_quota_Allows x_quota_Moved x_ref20_Same x_quota_Set x_quota_Valid) Tryz.f11.ntmps (AL_law20_sanity_c5.go (law20_sanity_c5 x_law20_sample x_quota_Of x_law20_q x_quota_Fits x_quota_Allows x_quota_Moved x_ref20_Same x_quota_Set x_quota_Valid) 0) (tailOf (bodyOf Tryz.f11) 5) :=
  cut_sound Atab (law20_sanity_hG x_law20_sample x_law20_sample_ok x_quota_Of x_quota_Of_ok x_law20_q x_law20_q_ok x_quota_Fits x_quota_Fits_ok x_quota_Allows x_quota_Allows_ok x_quota_Moved x_quota_Moved_ok x_ref20_Same x_ref20_Same_ok x_quota_Set x_quota_Set_ok x_quota_Valid x_quota_Valid_ok) Amixed (L := AL_law20_sanity_c5) (k := 0) (f := law20_sanity_c5 x_law20_sample x_quota_Of x_law20_q x_quota_Fits x_quota_Allows x_quota_Moved x_ref20_Same x_quota_Set x_quota_Valid) (C := (AC_law20_sanity x_law20_sample x_quota_Of x_law20_q x_quota_Fits x_quota_Allows x_quota_Moved x_ref20_Same x_quota_Set x_quota_Valid)) (l := []) (m := []) (by kernel_rfl) trivial (by kernel_rfl) trivial (by kernel_rfl) (law20_sanity_c5_eq x_law20_sample x_quota_Of x_law20_q x_quota_Fits x_quota_Allows x_quota_Moved x_ref20_Same x_quota_Set x_quota_Valid)
theorem law20_sanity_c4_ok (x_law20_sample : (Unit) → Option ((List (api_Pair)) × Unit)) (x_law20_sample_ok : EntOK Tryz.prog ⟨45, AS_law20_sample, AZ_law20_sample, x_law20_sample⟩) (x_quota_Of : ((List (api_Pair)) × (List UInt8) × Unit) → Option (quota_amount)) (x_quota_Of_ok : EntOK Tryz.prog ⟨15, AS_quota_Of, AZ_quota_Of, x_quota_Of⟩) (x_law20_q : ((List UInt8) × (Int) × (Int) × Unit) → Option ((api_Quota) × Unit)) (x_law20_q_ok : EntOK Tryz.prog ⟨39, AS_law20_q, AZ_law20_q, x_law20_q⟩) (x_quota_Fits : ((List (api_Pair)) × (List (api_Quota)) × Unit) → Option ((Bool) × Unit)) (x_quota_Fits_ok : EntOK Tryz.prog ⟨21, AS_quota_Fits, AZ_quota_Fits, x_quota_Fits⟩) (x_quota_Allows : ((List (api_Pair)) × (List (api_Quota)) × (List (api_Msg)) × Unit) → Option ((Bool) × Unit)) (x_quota_Allows_ok : EntOK Tryz.prog ⟨23, AS_quota_Allows, AZ_quota_Allows, x_quota_Allows⟩) (x_quota_Moved : ((List (api_Quota)) × (List UInt8) × (List UInt8) × Unit) → Option ((List (api_Quota)) × Unit)) (x_quota_Moved_ok : EntOK Tryz.prog ⟨19, AS_quota_Moved, AZ_quota_Moved, x_quota_Moved⟩) (x_ref20_Same : ((List (api_Quota)) × (List (api_Quota)) × Unit) → Option ((Bool) × Unit)) (x_ref20_Same_ok : EntOK Tryz.prog ⟨18, AS_ref20_Same, AZ_ref20_Same, x_ref20_Same⟩) (x_quota_Set : ((List (api_Quota)) × (api_Quota) × Unit) → Option ((List (api_Quota)) × (Int) × Unit)) (x_quota_Set_ok : EntOK Tryz.prog ⟨27, AS_quota_Set, AZ_quota_Set, x_quota_Set⟩) (x_quota_Valid : ((List (api_Quota)) × Unit) → Option ((Bool) × Unit)) (x_quota_Valid_ok : EntOK Tryz.prog ⟨25, AS_quota_Valid, AZ_quota_Valid, x_quota_Valid⟩) : CutOK Tryz.prog (AF_law20_sanity x_law20_sample x_quota_Of x_law20_q x_quota_Fits x_quota_Allows x_quota_Moved x_ref20_Same x_quota_Set x_quota_Valid) Tryz.f11.ntmps (AL_law20_sanity_c4.go (law20_sanity_c4 x_law20_sample x_quota_Of x_law20_q x_quota_Fits x_quota_Allows x_quota_Moved x_ref20_Same x_quota_Set x_quota_Valid) 0) (tailOf (bodyOf Tryz.f11) 4) :=
  cut_sound Atab (law20_sanity_hG x_law20_sample x_law20_sample_ok x_quota_Of x_quota_Of_ok x_law20_q x_law20_q_ok x_quota_Fits x_quota_Fits_ok x_quota_Allows x_quota_Allows_ok x_quota_Moved x_quota_Moved_ok x_ref20_Same x_ref20_Same_ok x_quota_Set x_quota_Set_ok x_quota_Valid x_quota_Valid_ok) Amixed (L := AL_law20_sanity_c4) (k := 0) (f := law20_sanity_c4 x_law20_sample x_quota_Of x_law20_q x_quota_Fits x_quota_Allows x_quota_Moved x_ref20_Same x_quota_Set x_quota_Valid) (C := (AC_law20_sanity x_law20_sample x_quota_Of x_law20_q x_quota_Fits x_quota_Allows x_quota_Moved x_ref20_Same x_quota_Set x_quota_Valid)) (l := []) (m := [(AL_law20_sanity_c5.go (law20_sanity_c5 x_law20_sample x_quota_Of x_law20_q x_quota_Fits x_quota_Allows x_quota_Moved x_ref20_Same x_quota_Set x_quota_Valid) 0, tailOf (bodyOf Tryz.f11) 5)]) (by kernel_rfl) trivial (by kernel_rfl) ⟨law20_sanity_c5_ok x_law20_sample x_law20_sample_ok x_quota_Of x_quota_Of_ok x_law20_q x_law20_q_ok x_quota_Fits x_quota_Fits_ok x_quota_Allows x_quota_Allows_ok x_quota_Moved x_quota_Moved_ok x_ref20_Same x_ref20_Same_ok x_quota_Set x_quota_Set_ok x_quota_Valid x_quota_Valid_ok, trivial⟩ (by kernel_rfl) (law20_sanity_c4_eq x_law20_sample x_quota_Of x_law20_q x_quota_Fits x_quota_Allows x_quota_Moved x_ref20_Same x_quota_Set x_quota_Valid)
theorem law20_sanity_step_ok (x_law20_sample : (Unit) → Option ((List (api_Pair)) × Unit)) (x_law20_sample_ok : EntOK Tryz.prog ⟨45, AS_law20_sample, AZ_law20_sample, x_law20_sample⟩) (x_quota_Of : ((List (api_Pair)) × (List UInt8) × Unit) → Option (quota_amount)) (x_quota_Of_ok : EntOK Tryz.prog ⟨15, AS_quota_Of, AZ_quota_Of, x_quota_Of⟩) (x_law20_q : ((List UInt8) × (Int) × (Int) × Unit) → Option ((api_Quota) × Unit)) (x_law20_q_ok : EntOK Tryz.prog ⟨39, AS_law20_q, AZ_law20_q, x_law20_q⟩) (x_quota_Fits : ((List (api_Pair)) × (List (api_Quota)) × Unit) → Option ((Bool) × Unit)) (x_quota_Fits_ok : EntOK Tryz.prog ⟨21, AS_quota_Fits, AZ_quota_Fits, x_quota_Fits⟩) (x_quota_Allows : ((List (api_Pair)) × (List (api_Quota)) × (List (api_Msg)) × Unit) → Option ((Bool) × Unit)) (x_quota_Allows_ok : EntOK Tryz.prog ⟨23, AS_quota_Allows, AZ_quota_Allows, x_quota_Allows⟩) (x_quota_Moved : ((List (api_Quota)) × (List UInt8) × (List UInt8) × Unit) → Option ((List (api_Quota)) × Unit)) (x_quota_Moved_ok : EntOK Tryz.prog ⟨19, AS_quota_Moved, AZ_quota_Moved, x_quota_Moved⟩) (x_ref20_Same : ((List (api_Quota)) × (List (api_Quota)) × Unit) → Option ((Bool) × Unit)) (x_ref20_Same_ok : EntOK Tryz.prog ⟨18, AS_ref20_Same, AZ_ref20_Same, x_ref20_Same⟩) (x_quota_Set : ((List (api_Quota)) × (api_Quota) × Unit) → Option ((List (api_Quota)) × (Int) × Unit)) (x_quota_Set_ok : EntOK Tryz.prog ⟨27, AS_quota_Set, AZ_quota_Set, x_quota_Set⟩) (x_quota_Valid : ((List (api_Quota)) × Unit) → Option ((Bool) × Unit)) (x_quota_Valid_ok : EntOK Tryz.prog ⟨25, AS_quota_Valid, AZ_quota_Valid, x_quota_Valid⟩) : EntOK Tryz.prog ⟨11, AS_law20_sanity, AZ_law20_sanity, law20_sanity_step x_law20_sample x_quota_Of x_law20_q x_quota_Fits x_quota_Allows x_quota_Moved x_ref20_Same x_quota_Set x_quota_Valid⟩ :=
  fun_soundK (C := (AC_law20_sanity x_law20_sample x_quota_Of x_law20_q x_quota_Fits x_quota_Allows x_quota_Moved x_ref20_Same x_quota_Set x_quota_Valid)) (F := (AF_law20_sanity x_law20_sample x_quota_Of x_law20_q x_quota_Fits x_quota_Allows x_quota_Moved x_ref20_Same x_quota_Set x_quota_Valid)) Atab (law20_sanity_hG x_law20_sample x_law20_sample_ok x_quota_Of x_quota_Of_ok x_law20_q x_law20_q_ok x_quota_Fits x_quota_Fits_ok x_quota_Allows x_quota_Allows_ok x_quota_Moved x_quota_Moved_ok x_ref20_Same x_ref20_Same_ok x_quota_Set x_quota_Set_ok x_quota_Valid x_quota_Valid_ok) Amixed (fn := Tryz.f11) (l := []) (m := [(AL_law20_sanity_c4.go (law20_sanity_c4 x_law20_sample x_quota_Of x_law20_q x_quota_Fits x_quota_Allows x_quota_Moved x_ref20_Same x_quota_Set x_quota_Valid) 0, tailOf (bodyOf Tryz.f11) 4)]) Tryz.func11 (by kernel_rfl) (by kernel_rfl) (by kernel_rfl) trivial (by kernel_rfl) ⟨law20_sanity_c4_ok x_law20_sample x_law20_sample_ok x_quota_Of x_quota_Of_ok x_law20_q x_law20_q_ok x_quota_Fits x_quota_Fits_ok x_quota_Allows x_quota_Allows_ok x_quota_Moved x_quota_Moved_ok x_ref20_Same x_ref20_Same_ok x_quota_Set x_quota_Set_ok x_quota_Valid x_quota_Valid_ok, trivial⟩ (by kernel_rfl) (law20_sanity_eq x_law20_sample x_quota_Of x_law20_q x_quota_Fits x_quota_Allows x_quota_Moved x_ref20_Same x_quota_Set x_quota_Valid)
theorem law20_sanity_ok : EntOK Tryz.prog AE_law20_sanity := law20_sanity_step_ok law20_sample law20_sample_ok quota_Of quota_Of_ok law20_q law20_q_ok quota_Fits quota_Fits_ok quota_Allows quota_Allows_ok quota_Moved quota_Moved_ok ref20_Same ref20_Same_ok quota_Set quota_Set_ok quota_Valid quota_Valid_ok
def AS_ref05_Path : Shape := ⟨[(0, (.dat (.int .u8)))], []⟩
def AZ_ref05_Path : Shape := ⟨[(0, (.dat .str))], []⟩
def AE_ref05_Path : Ent := ⟨48, AS_ref05_Path, AZ_ref05_Path, ref05_Path⟩
def AF_ref05_Path : Fx := ⟨Acx, lookupG [], fun k st => .fail, fun _ => none, 0⟩
theorem ref05_Path_eq (s : AS_ref05_Path.ty.den) : @Eq (Option AZ_ref05_Path.ty.den) (evFn AF_ref05_Path Tryz.f48 AS_ref05_Path AZ_ref05_Path s).val (ref05_Path s) := by kernel_rfl
theorem ref05_Path_hG : GSound Tryz.prog AF_ref05_Path.Γ := ents_sound trivial
theorem ref05_Path_ok : EntOK Tryz.prog AE_ref05_Path :=
  fun_sound (F := AF_ref05_Path) Atab ref05_Path_hG Amixed (fn := Tryz.f48) (m := []) Tryz.func48 (by kernel_rfl) (by kernel_rfl) (by kernel_rfl) trivial (by kernel_rfl) ref05_Path_eq
def AS_ref20_Path : Shape := ⟨[(0, (.dat (.int .u8)))], []⟩
def AZ_ref20_Path : Shape := ⟨[(0, (.dat .str))], []⟩
def AE_ref20_Path : Ent := ⟨16, AS_ref20_Path, AZ_ref20_Path, ref20_Path⟩
def AF_ref20_Path : Fx := ⟨Acx, lookupG [AE_ref05_Path], fun k st => .fail, fun _ => none, 0⟩
theorem ref20_Path_eq (s : AS_ref20_Path.ty.den) : @Eq (Option AZ_ref20_Path.ty.den) (evFn AF_ref20_Path Tryz.f16 AS_ref20_Path AZ_ref20_Path s).val (ref20_Path s) := by kernel_rfl
theorem ref20_Path_hG : GSound Tryz.prog AF_ref20_Path.Γ := ents_sound ⟨ref05_Path_ok, trivial⟩
theorem ref20_Path_ok : EntOK Tryz.prog AE_ref20_Path :=
  fun_sound (F := AF_ref20_Path) Atab ref20_Path_hG Amixed (fn := Tryz.f16) (m := []) Tryz.func16 (by kernel_rfl) (by kernel_rfl) (by kernel_rfl) trivial (by kernel_rfl) ref20_Path_eq
def AS_ref20_Quota : Shape := ⟨[(0, (.dat (.pair (.int .u8) (.pair (.int .u8) (.pair (.int .u8) .unit)))))], []⟩
def AZ_ref20_Quota : Shape := ⟨[(0, (.dat tapi_Quota))], []⟩
def AE_ref20_Quota : Ent := ⟨41, AS_ref20_Quota, AZ_ref20_Quota, ref20_Quota⟩
def AF_ref20_Quota : Fx := ⟨Acx, lookupG [AE_ref20_Path], fun k st => .fail, fun _ => none, 0⟩
theorem ref20_Quota_eq (s : AS_ref20_Quota.ty.den) : @Eq (Option AZ_ref20_Quota.ty.den) (evFn AF_ref20_Quota Tryz.f41 AS_ref20_Quota AZ_ref20_Quota s).val (ref20_Quota s) := by kernel_rfl
theorem ref20_Quota_hG : GSound Tryz.prog AF_ref20_Quota.Γ := ents_sound ⟨ref20_Path_ok, trivial⟩
theorem ref20_Quota_ok : EntOK Tryz.prog AE_ref20_Quota :=
  fun_sound (F := AF_ref20_Quota) Atab ref20_Quota_hG Amixed (fn := Tryz.f41) (m := []) Tryz.func41 (by kernel_rfl) (by kernel_rfl) (by kernel_rfl) trivial (by kernel_rfl) ref20_Quota_eq
def AL_ref20_Without_0 : Lp := ⟨⟨[(0, (.dat (.list tapi_Quota))), (1, (.dat .str)), (5, (.own tapi_Quota 0)), (6, (.dat (.int .i64)))], [.arr 45 tapi_Quota false]⟩, (.exit 0), ⟨[(5, (.own tapi_Quota 0))], [.arr 45 tapi_Quota false]⟩, (.exit 80000000), ⟨[], []⟩⟩
def AS_ref20_Without : Shape := ⟨[(0, (.dat (.list tapi_Quota))), (1, (.dat .str))], []⟩
def AZ_ref20_Without : Shape := ⟨[(0, (.own tapi_Quota 0))], [.arr 45 tapi_Quota false]⟩
def AE_ref20_Without : Ent := ⟨42, AS_ref20_Without, AZ_ref20_Without, ref20_Without⟩
def AF_ref20_Without : Fx := ⟨Acx, lookupG [], fun k st => bif Nat.beq k 0 then AL_ref20_Without_0.go (ref20_Without_l0) 0 st else .fail, fun _ => none, 0⟩
theorem ref20_Without_b0_eq (s : AL_ref20_Without_0.S.ty.den) : @Eq (Option (AL_ref20_Without_0.S.ty.den ⊕ AL_ref20_Without_0.Out)) (AL_ref20_Without_0.body AF_ref20_Without (loopAt (bodyOf Tryz.f42) 0) 0 s).val (ref20_Without_b0 s) := by kernel_rfl
theorem ref20_Without_eq (s : AS_ref20_Without.ty.den) : @Eq (Option AZ_ref20_Without.ty.den) (evFn AF_ref20_Without Tryz.f42 AS_ref20_Without AZ_ref20_Without s).val (ref20_Without s) := by kernel_rfl
theorem ref20_Without_hG : GSound Tryz.prog AF_ref20_Without.Γ := ents_sound trivial
theorem ref20_Without_la0 : LamOK Tryz.prog AF_ref20_Without Tryz.f42.ntmps 0 (loopAt (bodyOf Tryz.f42) 0) :=
  lam_sound Atab ref20_Without_hG Amixed (L := AL_ref20_Without_0) (f := ref20_Without_l0) (b := ref20_Without_b0) (m := []) (fun _ => rfl) (by kernel_rfl) (by kernel_rfl) trivial (by kernel_rfl) ref20_Without_b0_eq
theorem ref20_Without_ok : EntOK Tryz.prog AE_ref20_Without :=
  fun_sound (F := AF_ref20_Without) Atab ref20_Without_hG Amixed (fn := Tryz.f42) (m := [(0, loopAt (bodyOf Tryz.f42) 0)]) Tryz.func42 (by kernel_rfl) (by kernel_rfl) (by kernel_rfl) ⟨ref20_Without_la0, trivial⟩ (by kernel_rfl) ref20_Without_eq
def AL_ref20_Insert_0 : Lp := ⟨⟨[(0, (.dat (.list tapi_Quota))), (3, (.ptr 0 tapi_Quota 0 [])), (5, (.own tapi_Quota 1)), (6, (.dat .bool)), (7, (.dat (.int .i64)))], [.box 45 tapi_Quota (.dat tapi_Quota), .arr 45 tapi_Quota false]⟩, (.exit 0), ⟨[(3, (.ptr 0 tapi_Quota 0 [])), (5, (.own tapi_Quota 1)), (6, (.dat .bool))], [.box 45 tapi_Quota (.dat tapi_Quota), .arr 45 tapi_Quota false]⟩, (.exit 80000000), ⟨[], []⟩⟩
def AS_ref20_Insert : Shape := ⟨[(0, (.dat (.list tapi_Quota))), (1, (.dat tapi_Quota))], []⟩
def AZ_ref20_Insert : Shape := ⟨[(0, (.own tapi_Quota 0))], [.arr 45 tapi_Quota false]⟩
def AE_ref20_Insert : Ent := ⟨46, AS_ref20_Insert, AZ_ref20_Insert, ref20_Insert⟩
def AF_ref20_Insert : Fx := ⟨Acx, lookupG [], fun k st => bif Nat.beq k 0 then AL_ref20_Insert_0.go (ref20_Insert_l0) 0 st else .fail, fun _ => none, 0⟩
theorem ref20_Insert_b0_eq (s : AL_ref20_Insert_0.S.ty.den) : @Eq (Option (AL_ref20_Insert_0.S.ty.den ⊕ AL_ref20_Insert_0.Out)) (AL_ref20_Insert_0.body AF_ref20_Insert (loopAt (bodyOf Tryz.f46) 0) 0 s).val (ref20_Insert_b0 s) := by kernel_rfl
theorem ref20_Insert_eq (s : AS_ref20_Insert.ty.den) : @Eq (Option AZ_ref20_Insert.ty.den) (evFn AF_ref20_Insert Tryz.f46 AS_ref20_Insert AZ_ref20_Insert s).val (ref20_Insert s) := by kernel_rfl
theorem ref20_Insert_hG : GSound Tryz.prog AF_ref20_Insert.Γ := ents_sound trivial
theorem ref20_Insert_la0 : LamOK Tryz.prog AF_ref20_Insert Tryz.f46.ntmps 0 (loopAt (bodyOf Tryz.f46) 0) :=
  lam_sound Atab ref20_Insert_hG Amixed (L := AL_ref20_Insert_0) (f := ref20_Insert_l0) (b := ref20_Insert_b0) (m := []) (fun _ => rfl) (by kernel_rfl) (by kernel_rfl) trivial (by kernel_rfl) ref20_Insert_b0_eq
theorem ref20_Insert_ok : EntOK Tryz.prog AE_ref20_Insert :=
  fun_sound (F := AF_ref20_Insert) Atab ref20_Insert_hG Amixed (fn := Tryz.f46) (m := [(0, loopAt (bodyOf Tryz.f46) 0)]) Tryz.func46 (by kernel_rfl) (by kernel_rfl) (by kernel_rfl) ⟨ref20_Insert_la0, trivial⟩ (by kernel_rfl) ref20_Insert_eq
def AL_ref20_Made_0 : Lp := ⟨⟨[(0, (.dat (.list (.pair (.int .u8) (.pair (.int .u8) (.pair (.int .u8) .unit)))))), (3, (.own tapi_Quota 0)), (4, (.dat (.int .i64)))], [.arr 45 tapi_Quota false]⟩, (.exit 0), ⟨[(3, (.own tapi_Quota 0))], [.arr 45 tapi_Quota false]⟩, (.exit 80000000), ⟨[], []⟩⟩
def AS_ref20_Made : Shape := ⟨[(0, (.dat (.list (.pair (.int .u8) (.pair (.int .u8) (.pair (.int .u8) .unit))))))], []⟩
def AZ_ref20_Made : Shape := ⟨[(0, (.own tapi_Quota 0))], [.arr 45 tapi_Quota false]⟩
def AE_ref20_Made : Ent := ⟨13, AS_ref20_Made, AZ_ref20_Made, ref20_Made⟩
def AF_ref20_Made : Fx := ⟨Acx, lookupG [AE_ref20_Quota, AE_ref20_Without, AE_ref20_Insert], fun k st => bif Nat.beq k 0 then AL_ref20_Made_0.go (ref20_Made_l0) 0 st else .fail, fun _ => none, 0⟩
theorem ref20_Made_b0_eq (s : AL_ref20_Made_0.S.ty.den) : @Eq (Option (AL_ref20_Made_0.S.ty.den ⊕ AL_ref20_Made_0.Out)) (AL_ref20_Made_0.body AF_ref20_Made (loopAt (bodyOf Tryz.f13) 0) 0 s).val (ref20_Made_b0 s) := by kernel_rfl
theorem ref20_Made_eq (s : AS_ref20_Made.ty.den) : @Eq (Option AZ_ref20_Made.ty.den) (evFn AF_ref20_Made Tryz.f13 AS_ref20_Made AZ_ref20_Made s).val (ref20_Made s) := by kernel_rfl
theorem ref20_Made_hG : GSound Tryz.prog AF_ref20_Made.Γ := ents_sound ⟨ref20_Quota_ok, ref20_Without_ok, ref20_Insert_ok, trivial⟩
theorem ref20_Made_la0 : LamOK Tryz.prog AF_ref20_Made Tryz.f13.ntmps 0 (loopAt (bodyOf Tryz.f13) 0) :=
  lam_sound Atab ref20_Made_hG Amixed (L := AL_ref20_Made_0) (f := ref20_Made_l0) (b := ref20_Made_b0) (m := []) (fun _ => rfl) (by kernel_rfl) (by kernel_rfl) trivial (by kernel_rfl) ref20_Made_b0_eq
theorem ref20_Made_ok : EntOK Tryz.prog AE_ref20_Made :=
  fun_sound (F := AF_ref20_Made) Atab ref20_Made_hG Amixed (fn := Tryz.f13) (m := [(0, loopAt (bodyOf Tryz.f13) 0)]) Tryz.func13 (by kernel_rfl) (by kernel_rfl) (by kernel_rfl) ⟨ref20_Made_la0, trivial⟩ (by kernel_rfl) ref20_Made_eq
def AL_ref01_Names_0 : Lp := ⟨⟨[(0, (.dat .str)), (4, (.own .str 0)), (5, (.dat .str)), (6, (.dat (.int .i64)))], [.arr 9 .str false]⟩, (.exit 0), ⟨[(4, (.own .str 0)), (5, (.dat .str))], [.arr 9 .str false]⟩, (.exit 80000000), ⟨[], []⟩⟩
def AS_ref01_Names : Shape := ⟨[(0, (.dat .str))], []⟩
def AZ_ref01_Names : Shape := ⟨[(0, (.own .str 0)), (1, (.dat .bool))], [.arr 9 .str false]⟩
def AE_ref01_Names : Ent := ⟨86, AS_ref01_Names, AZ_ref01_Names, ref01_Names⟩
def AF_ref01_Names : Fx := ⟨Acx, lookupG [], fun k st => bif Nat.beq k 0 then AL_ref01_Names_0.go (ref01_Names_l0) 0 st else .fail, fun _ => none, 0⟩
theorem ref01_Names_b0_eq (s : AL_ref01_Names_0.S.ty.den) : @Eq (Option (AL_ref01_Names_0.S.ty.den ⊕ AL_ref01_Names_0.Out)) (AL_ref01_Names_0.body AF_ref01_Names (loopAt (bodyOf Tryz.f86) 0) 0 s).val (ref01_Names_b0 s) := by kernel_rfl
theorem ref01_Names_eq (s : AS_ref01_Names.ty.den) : @Eq (Option AZ_ref01_Names.ty.den) (evFn AF_ref01_Names Tryz.f86 AS_ref01_Names AZ_ref01_Names s).val (ref01_Names s) := by kernel_rfl
theorem ref01_Names_hG : GSound Tryz.prog AF_ref01_Names.Γ := ents_sound trivial
theorem ref01_Names_la0 : LamOK Tryz.prog AF_ref01_Names Tryz.f86.ntmps 0 (loopAt (bodyOf Tryz.f86) 0) :=
  lam_sound Atab ref01_Names_hG Amixed (L := AL_ref01_Names_0) (f := ref01_Names_l0) (b := ref01_Names_b0) (m := []) (fun _ => rfl) (by kernel_rfl) (by kernel_rfl) trivial (by kernel_rfl) ref01_Names_b0_eq
theorem ref01_Names_ok : EntOK Tryz.prog AE_ref01_Names :=
  fun_sound (F := AF_ref01_Names) Atab ref01_Names_hG Amixed (fn := Tryz.f86) (m := [(0, loopAt (bodyOf Tryz.f86) 0)]) Tryz.func86 (by kernel_rfl) (by kernel_rfl) (by kernel_rfl) ⟨ref01_Names_la0, trivial⟩ (by kernel_rfl) ref01_Names_eq
def AL_ref01_Name_0 : Lp := ⟨⟨[(0, (.dat .str)), (3, (.dat (.int .i64)))], []⟩, .ret, ⟨[(2, (.dat .bool))], []⟩, (.exit 0), ⟨[], []⟩⟩
def AS_ref01_Name : Shape := ⟨[(0, (.dat .str))], []⟩
def AZ_ref01_Name : Shape := ⟨[(0, (.dat .bool))], []⟩
def AE_ref01_Name : Ent := ⟨87, AS_ref01_Name, AZ_ref01_Name, ref01_Name⟩
def AF_ref01_Name : Fx := ⟨Acx, lookupG [], fun k st => bif Nat.beq k 0 then AL_ref01_Name_0.go (ref01_Name_l0) 0 st else .fail, fun _ => none, 0⟩
theorem ref01_Name_b0_eq (s : AL_ref01_Name_0.S.ty.den) : @Eq (Option (AL_ref01_Name_0.S.ty.den ⊕ AL_ref01_Name_0.Out)) (AL_ref01_Name_0.body AF_ref01_Name (loopAt (bodyOf Tryz.f87) 0) 0 s).val (ref01_Name_b0 s) := by kernel_rfl
theorem ref01_Name_eq (s : AS_ref01_Name.ty.den) : @Eq (Option AZ_ref01_Name.ty.den) (evFn AF_ref01_Name Tryz.f87 AS_ref01_Name AZ_ref01_Name s).val (ref01_Name s) := by kernel_rfl
theorem ref01_Name_hG : GSound Tryz.prog AF_ref01_Name.Γ := ents_sound trivial
theorem ref01_Name_la0 : LamOK Tryz.prog AF_ref01_Name Tryz.f87.ntmps 0 (loopAt (bodyOf Tryz.f87) 0) :=
  lam_sound Atab ref01_Name_hG Amixed (L := AL_ref01_Name_0) (f := ref01_Name_l0) (b := ref01_Name_b0) (m := []) (fun _ => rfl) (by kernel_rfl) (by kernel_rfl) trivial (by kernel_rfl) ref01_Name_b0_eq
theorem ref01_Name_ok : EntOK Tryz.prog AE_ref01_Name :=
  fun_sound (F := AF_ref01_Name) Atab ref01_Name_hG Amixed (fn := Tryz.f87) (m := [(0, loopAt (bodyOf Tryz.f87) 0)]) Tryz.func87 (by kernel_rfl) (by kernel_rfl) (by kernel_rfl) ⟨ref01_Name_la0, trivial⟩ (by kernel_rfl) ref01_Name_eq
def AL_ref01_Valid_0 : Lp := ⟨⟨[(3, (.own .str 0)), (4, (.dat .bool)), (5, (.dat (.int .i64)))], [.arr 9 .str false]⟩, .ret, ⟨[(2, (.dat .bool))], []⟩, (.exit 0), ⟨[(4, (.dat .bool))], []⟩⟩
def AS_ref01_Valid : Shape := ⟨[(0, (.dat .str))], []⟩
def AZ_ref01_Valid : Shape := ⟨[(0, (.dat .bool))], []⟩
def AE_ref01_Valid : Ent := ⟨67, AS_ref01_Valid, AZ_ref01_Valid, ref01_Valid⟩
def AF_ref01_Valid : Fx := ⟨Acx, lookupG [AE_ref01_Names, AE_ref01_Name], fun k st => bif Nat.beq k 0 then AL_ref01_Valid_0.go (ref01_Valid_l0) 0 st else .fail, fun _ => none, 0⟩
theorem ref01_Valid_b0_eq (s : AL_ref01_Valid_0.S.ty.den) : @Eq (Option (AL_ref01_Valid_0.S.ty.den ⊕ AL_ref01_Valid_0.Out)) (AL_ref01_Valid_0.body AF_ref01_Valid (loopAt (bodyOf Tryz.f67) 0) 0 s).val (ref01_Valid_b0 s) := by kernel_rfl
theorem ref01_Valid_eq (s : AS_ref01_Valid.ty.den) : @Eq (Option AZ_ref01_Valid.ty.den) (evFn AF_ref01_Valid Tryz.f67 AS_ref01_Valid AZ_ref01_Valid s).val (ref01_Valid s) := by kernel_rfl
theorem ref01_Valid_hG : GSound Tryz.prog AF_ref01_Valid.Γ := ents_sound ⟨ref01_Names_ok, ref01_Name_ok, trivial⟩
theorem ref01_Valid_la0 : LamOK Tryz.prog AF_ref01_Valid Tryz.f67.ntmps 0 (loopAt (bodyOf Tryz.f67) 0) :=
  lam_sound Atab ref01_Valid_hG Amixed (L := AL_ref01_Valid_0) (f := ref01_Valid_l0) (b := ref01_Valid_b0) (m := []) (fun _ => rfl) (by kernel_rfl) (by kernel_rfl) trivial (by kernel_rfl) ref01_Valid_b0_eq
theorem ref01_Valid_ok : EntOK Tryz.prog AE_ref01_Valid :=
  fun_sound (F := AF_ref01_Valid) Atab ref01_Valid_hG Amixed (fn := Tryz.f67) (m := [(0, loopAt (bodyOf Tryz.f67) 0)]) Tryz.func67 (by kernel_rfl) (by kernel_rfl) (by kernel_rfl) ⟨ref01_Valid_la0, trivial⟩ (by kernel_rfl) ref01_Valid_eq
def AS_ref20_in : Shape := ⟨[(0, (.dat (.int .i64)))], []⟩
def AZ_ref20_in : Shape := ⟨[(0, (.dat .bool))], []⟩
def AE_ref20_in : Ent := ⟨83, AS_ref20_in, AZ_ref20_in, ref20_in⟩
def AF_ref20_in : Fx := ⟨Acx, lookupG [], fun k st => .fail, fun _ => none, 0⟩
theorem ref20_in_eq (s : AS_ref20_in.ty.den) : @Eq (Option AZ_ref20_in.ty.den) (evFn AF_ref20_in Tryz.f83 AS_ref20_in AZ_ref20_in s).val (ref20_in s) := by kernel_rfl
theorem ref20_in_hG : GSound Tryz.prog AF_ref20_in.Γ := ents_sound trivial
theorem ref20_in_ok : EntOK Tryz.prog AE_ref20_in :=
  fun_sound (F := AF_ref20_in) Atab ref20_in_hG Amixed (fn := Tryz.f83) (m := []) Tryz.func83 (by kernel_rfl) (by kernel_rfl) (by kernel_rfl) trivial (by kernel_rfl) ref20_in_eq
def AS_ref20_right : Shape := ⟨[(0, (.dat tapi_Quota))], []⟩
def AZ_ref20_right : Shape := ⟨[(0, (.dat .bool))], []⟩
def AE_ref20_right : Ent := ⟨62, AS_ref20_right, AZ_ref20_right, ref20_right⟩
def AF_ref20_right : Fx := ⟨Acx, lookupG [AE_ref01_Valid, AE_ref20_in], fun k st => .fail, fun _ => none, 0⟩
theorem ref20_right_eq (s : AS_ref20_right.ty.den) : @Eq (Option AZ_ref20_right.ty.den) (evFn AF_ref20_right Tryz.f62 AS_ref20_right AZ_ref20_right s).val (ref20_right s) := by kernel_rfl
theorem ref20_right_hG : GSound Tryz.prog AF_ref20_right.Γ := ents_sound ⟨ref01_Valid_ok, ref20_in_ok, trivial⟩
theorem ref20_right_ok : EntOK Tryz.prog AE_ref20_right :=
  fun_sound (F := AF_ref20_right) Atab ref20_right_hG Amixed (fn := Tryz.f62) (m := []) Tryz.func62 (by kernel_rfl) (by kernel_rfl) (by kernel_rfl) trivial (by kernel_rfl) ref20_right_eq
def AL_ref20_Valid_0 : Lp := ⟨⟨[(0, (.dat (.list tapi_Quota))), (3, (.dat (.int .i64)))], []⟩, .ret, ⟨[(2, (.dat .bool))], []⟩, (.exit 0), ⟨[(0, (.dat (.list tapi_Quota)))], []⟩⟩
def AS_ref20_Valid : Shape := ⟨[(0, (.dat (.list tapi_Quota)))], []⟩
def AZ_ref20_Valid : Shape := ⟨[(0, (.dat .bool))], []⟩
def AE_ref20_Valid : Ent := ⟨26, AS_ref20_Valid, AZ_ref20_Valid, ref20_Valid⟩
def AF_ref20_Valid : Fx := ⟨Acx, lookupG [AE_ref20_right], fun k st => bif Nat.beq k 0 then AL_ref20_Valid_0.go (ref20_Valid_l0) 0 st else .fail, fun _ => none, 0⟩
theorem ref20_Valid_b0_eq (s : AL_ref20_Valid_0.S.ty.den) : @Eq (Option (AL_ref20_Valid_0.S.ty.den ⊕ AL_ref20_Valid_0.Out)) (AL_ref20_Valid_0.body AF_ref20_Valid (loopAt (bodyOf Tryz.f26) 0) 0 s).val (ref20_Valid_b0 s) := by kernel_rfl
theorem ref20_Valid_eq (s : AS_ref20_Valid.ty.den) : @Eq (Option AZ_ref20_Valid.ty.den) (evFn AF_ref20_Valid Tryz.f26 AS_ref20_Valid AZ_ref20_Valid s).val (ref20_Valid s) := by kernel_rfl
theorem ref20_Valid_hG : GSound Tryz.prog AF_ref20_Valid.Γ := ents_sound ⟨ref20_right_ok, trivial⟩
theorem ref20_Valid_la0 : LamOK Tryz.prog AF_ref20_Valid Tryz.f26.ntmps 0 (loopAt (bodyOf Tryz.f26) 0) :=
  lam_sound Atab ref20_Valid_hG Amixed (L := AL_ref20_Valid_0) (f := ref20_Valid_l0) (b := ref20_Valid_b0) (m := []) (fun _ => rfl) (by kernel_rfl) (by kernel_rfl) trivial (by kernel_rfl) ref20_Valid_b0_eq
theorem ref20_Valid_ok : EntOK Tryz.prog AE_ref20_Valid :=
  fun_sound (F := AF_ref20_Valid) Atab ref20_Valid_hG Amixed (fn := Tryz.f26) (m := [(0, loopAt (bodyOf Tryz.f26) 0)]) Tryz.func26 (by kernel_rfl) (by kernel_rfl) (by kernel_rfl) ⟨ref20_Valid_la0, trivial⟩ (by kernel_rfl) ref20_Valid_eq
def AS_ref20_Set : Shape := ⟨[(0, (.dat (.list tapi_Quota))), (1, (.dat tapi_Quota))], []⟩
def AZ_ref20_Set : Shape := ⟨[(0, (.dat (.list tapi_Quota))), (1, (.dat (.int .i64)))], []⟩
def AE_ref20_Set : Ent := ⟨28, AS_ref20_Set, AZ_ref20_Set, ref20_Set⟩
def AF_ref20_Set : Fx := ⟨Acx, lookupG [AE_ref20_Without, AE_ref20_Insert, AE_ref01_Valid, AE_ref20_right], fun k st => .fail, fun _ => none, 0⟩
theorem ref20_Set_eq (s : AS_ref20_Set.ty.den) : @Eq (Option AZ_ref20_Set.ty.den) (evFn AF_ref20_Set Tryz.f28 AS_ref20_Set AZ_ref20_Set s).val (ref20_Set s) := by kernel_rfl
theorem ref20_Set_hG : GSound Tryz.prog AF_ref20_Set.Γ := ents_sound ⟨ref20_Without_ok, ref20_Insert_ok, ref01_Valid_ok, ref20_right_ok, trivial⟩
theorem ref20_Set_ok : EntOK Tryz.prog AE_ref20_Set :=
  fun_sound (F := AF_ref20_Set) Atab ref20_Set_hG Amixed (fn := Tryz.f28) (m := []) Tryz.func28 (by kernel_rfl) (by kernel_rfl) (by kernel_rfl) trivial (by kernel_rfl) ref20_Set_eq
def AS_law20_QuotaValid : Shape := ⟨[(0, (.dat (.list tapi_Quota))), (1, (.dat (.list (.pair (.int .u8) (.pair (.int .u8) (.pair (.int .u8) .unit)))))), (2, (.dat tapi_Quota))], []⟩
def AZ_law20_QuotaValid : Shape := ⟨[(0, (.dat .bool))], []⟩
def AE_law20_QuotaValid : Ent := ⟨4, AS_law20_QuotaValid, AZ_law20_QuotaValid, law20_QuotaValid⟩
def AF_law20_QuotaValid : Fx := ⟨Acx, lookupG [AE_ref20_Same, AE_quota_Set, AE_quota_Valid, AE_law20_sanity, AE_ref20_Made, AE_ref20_Valid, AE_ref20_Set], fun k st => .fail, fun _ => none, 0⟩
theorem law20_QuotaValid_eq (s : AS_law20_QuotaValid.ty.den) : @Eq (Option AZ_law20_QuotaValid.ty.den) (evFn AF_law20_QuotaValid Tryz.f4 AS_law20_QuotaValid AZ_law20_QuotaValid s).val (law20_QuotaValid s) := by kernel_rfl
theorem law20_QuotaValid_hG : GSound Tryz.prog AF_law20_QuotaValid.Γ := ents_sound ⟨ref20_Same_ok, quota_Set_ok, quota_Valid_ok, law20_sanity_ok, ref20_Made_ok, ref20_Valid_ok, ref20_Set_ok, trivial⟩
theorem law20_QuotaValid_ok : EntOK Tryz.prog AE_law20_QuotaValid :=
  fun_sound (F := AF_law20_QuotaValid) Atab law20_QuotaValid_hG Amixed (fn := Tryz.f4) (m := []) Tryz.func4 (by kernel_rfl) (by kernel_rfl) (by kernel_rfl) trivial (by kernel_rfl) law20_QuotaValid_eq
def AS_ref05_Key : Shape := ⟨[(0, (.dat (.int .u8)))], []⟩
def AZ_ref05_Key : Shape := ⟨[(0, (.dat .str))], []⟩
def AE_ref05_Key : Ent := ⟨33, AS_ref05_Key, AZ_ref05_Key, ref05_Key⟩
def AF_ref05_Key : Fx := ⟨Acx, lookupG [AE_ref05_Path], fun k st => .fail, fun _ => none, 0⟩
theorem ref05_Key_eq (s : AS_ref05_Key.ty.den) : @Eq (Option AZ_ref05_Key.ty.den) (evFn AF_ref05_Key Tryz.f33 AS_ref05_Key AZ_ref05_Key s).val (ref05_Key s) := by kernel_rfl
theorem ref05_Key_hG : GSound Tryz.prog AF_ref05_Key.Γ := ents_sound ⟨ref05_Path_ok, trivial⟩
theorem ref05_Key_ok : EntOK Tryz.prog AE_ref05_Key :=
  fun_sound (F := AF_ref05_Key) Atab ref05_Key_hG Amixed (fn := Tryz.f33) (m := []) Tryz.func33 (by kernel_rfl) (by kernel_rfl) (by kernel_rfl) trivial (by kernel_rfl) ref05_Key_eq
def AS_ref05_Value : Shape := ⟨[(0, (.dat (.int .u8)))], []⟩
def AZ_ref05_Value : Shape := ⟨[(0, (.dat .str))], []⟩
def AE_ref05_Value : Ent := ⟨34, AS_ref05_Value, AZ_ref05_Value, ref05_Value⟩
def AF_ref05_Value : Fx := ⟨Acx, lookupG [], fun k st => .fail, fun _ => none, 0⟩
theorem ref05_Value_eq (s : AS_ref05_Value.ty.den) : @Eq (Option AZ_ref05_Value.ty.den) (evFn AF_ref05_Value Tryz.f34 AS_ref05_Value AZ_ref05_Value s).val (ref05_Value s) := by kernel_rfl
theorem ref05_Value_hG : GSound Tryz.prog AF_ref05_Value.Γ := ents_sound trivial
theorem ref05_Value_ok : EntOK Tryz.prog AE_ref05_Value :=
  fun_sound (F := AF_ref05_Value) Atab ref05_Value_hG Amixed (fn := Tryz.f34) (m := []) Tryz.func34 (by kernel_rfl) (by kernel_rfl) (by kernel_rfl) trivial (by kernel_rfl) ref05_Value_eq
def AL_ref05_Insert_0 : Lp := ⟨⟨[(0, (.dat (.list tapi_Pair))), (3, (.ptr 0 tapi_Pair 0 [])), (5, (.own tapi_Pair 1)), (6, (.dat .bool)), (7, (.dat (.int .i64)))], [.box 58 tapi_Pair (.dat tapi_Pair), .arr 58 tapi_Pair false]⟩, (.exit 0), ⟨[(3, (.ptr 0 tapi_Pair 0 [])), (5, (.own tapi_Pair 1)), (6, (.dat .bool))], [.box 58 tapi_Pair (.dat tapi_Pair), .arr 58 tapi_Pair false]⟩, (.exit 80000000), ⟨[], []⟩⟩
def AS_ref05_Insert : Shape := ⟨[(0, (.dat (.list tapi_Pair))), (1, (.dat tapi_Pair))], []⟩
def AZ_ref05_Insert : Shape := ⟨[(0, (.own tapi_Pair 0))], [.arr 58 tapi_Pair false]⟩
def AE_ref05_Insert : Ent := ⟨36, AS_ref05_Insert, AZ_ref05_Insert, ref05_Insert⟩
def AF_ref05_Insert : Fx := ⟨Acx, lookupG [], fun k st => bif Nat.beq k 0 then AL_ref05_Insert_0.go (ref05_Insert_l0) 0 st else .fail, fun _ => none, 0⟩
theorem ref05_Insert_b0_eq (s : AL_ref05_Insert_0.S.ty.den) : @Eq (Option (AL_ref05_Insert_0.S.ty.den ⊕ AL_ref05_Insert_0.Out)) (AL_ref05_Insert_0.body AF_ref05_Insert (loopAt (bodyOf Tryz.f36) 0) 0 s).val (ref05_Insert_b0 s) := by kernel_rfl
theorem ref05_Insert_eq (s : AS_ref05_Insert.ty.den) : @Eq (Option AZ_ref05_Insert.ty.den) (evFn AF_ref05_Insert Tryz.f36 AS_ref05_Insert AZ_ref05_Insert s).val (ref05_Insert s) := by kernel_rfl
theorem ref05_Insert_hG : GSound Tryz.prog AF_ref05_Insert.Γ := ents_sound trivial
theorem ref05_Insert_la0 : LamOK Tryz.prog AF_ref05_Insert Tryz.f36.ntmps 0 (loopAt (bodyOf Tryz.f36) 0) :=
  lam_sound Atab ref05_Insert_hG Amixed (L := AL_ref05_Insert_0) (f := ref05_Insert_l0) (b := ref05_Insert_b0) (m := []) (fun _ => rfl) (by kernel_rfl) (by kernel_rfl) trivial (by kernel_rfl) ref05_Insert_b0_eq
theorem ref05_Insert_ok : EntOK Tryz.prog AE_ref05_Insert :=
  fun_sound (F := AF_ref05_Insert) Atab ref05_Insert_hG Amixed (fn := Tryz.f36) (m := [(0, loopAt (bodyOf Tryz.f36) 0)]) Tryz.func36 (by kernel_rfl) (by kernel_rfl) (by kernel_rfl) ⟨ref05_Insert_la0, trivial⟩ (by kernel_rfl) ref05_Insert_eq
def AL_ref05_Table_0 : Lp := ⟨⟨[(0, (.dat (.list (.pair (.int .u8) (.pair (.int .u8) (.pair (.int .u8) .unit)))))), (1, (.dat (.int .i64))), (5, (.own tapi_Pair 0)), (6, (.dat (.int .i64)))], [.arr 58 tapi_Pair false]⟩, (.exit 0), ⟨[(5, (.own tapi_Pair 0))], [.arr 58 tapi_Pair false]⟩, (.exit 80000000), ⟨[], []⟩⟩
def AS_ref05_Table : Shape := ⟨[(0, (.dat (.list (.pair (.int .u8) (.pair (.int .u8) (.pair (.int .u8) .unit)))))), (1, (.dat (.int .i64)))], []⟩
def AZ_ref05_Table : Shape := ⟨[(0, (.own tapi_Pair 0))], [.arr 58 tapi_Pair false]⟩
def AE_ref05_Table : Ent := ⟨12, AS_ref05_Table, AZ_ref05_Table, ref05_Table⟩
def AF_ref05_Table : Fx := ⟨Acx, lookupG [AE_ref05_Key, AE_ref05_Value, AE_ref05_Insert], fun k st => bif Nat.beq k 0 then AL_ref05_Table_0.go (ref05_Table_l0) 0 st else .fail, fun _ => none, 0⟩
theorem ref05_Table_b0_eq (s : AL_ref05_Table_0.S.ty.den) : @Eq (Option (AL_ref05_Table_0.S.ty.den ⊕ AL_ref05_Table_0.Out)) (AL_ref05_Table_0.body AF_ref05_Table (loopAt (bodyOf Tryz.f12) 0) 0 s).val (ref05_Table_b0 s) := by kernel_rfl
theorem ref05_Table_eq (s : AS_ref05_Table.ty.den) : @Eq (Option AZ_ref05_Table.ty.den) (evFn AF_ref05_Table Tryz.f12 AS_ref05_Table AZ_ref05_Table s).val (ref05_Table s) := by kernel_rfl
theorem ref05_Table_hG : GSound Tryz.prog AF_ref05_Table.Γ := ents_sound ⟨ref05_Key_ok, ref05_Value_ok, ref05_Insert_ok, trivial⟩
theorem ref05_Table_la0 : LamOK Tryz.prog AF_ref05_Table Tryz.f12.ntmps 0 (loopAt (bodyOf Tryz.f12) 0) :=
  lam_sound Atab ref05_Table_hG Amixed (L := AL_ref05_Table_0) (f := ref05_Table_l0) (b := ref05_Table_b0) (m := []) (fun _ => rfl) (by kernel_rfl) (by kernel_rfl) trivial (by kernel_rfl) ref05_Table_b0_eq
theorem ref05_Table_ok : EntOK Tryz.prog AE_ref05_Table :=
  fun_sound (F := AF_ref05_Table) Atab ref05_Table_hG Amixed (fn := Tryz.f12) (m := [(0, loopAt (bodyOf Tryz.f12) 0)]) Tryz.func12 (by kernel_rfl) (by kernel_rfl) (by kernel_rfl) ⟨ref05_Table_la0, trivial⟩ (by kernel_rfl) ref05_Table_eq
def AL_ref02_Prefix_0 : Lp := ⟨⟨[(0, (.dat .str)), (2, (.ptr 0 tapi_Span 0 [])), (3, (.dat (.int .i64)))], [.box 36 tapi_Span (.agg [(.dat .str), (.dat .str)])]⟩, (.exit 0), ⟨[(0, (.dat .str)), (2, (.ptr 0 tapi_Span 0 [])), (3, (.dat (.int .i64)))], [.box 36 tapi_Span (.agg [(.dat .str), (.dat .str)])]⟩, (.exit 80000000), ⟨[], []⟩⟩
def AS_ref02_Prefix : Shape := ⟨[(0, (.dat .str))], []⟩
def AZ_ref02_Prefix : Shape := ⟨[(0, (.dat tapi_Span))], []⟩
def AE_ref02_Prefix : Ent := ⟨30, AS_ref02_Prefix, AZ_ref02_Prefix, ref02_Prefix⟩
def AF_ref02_Prefix : Fx := ⟨Acx, lookupG [], fun k st => bif Nat.beq k 0 then AL_ref02_Prefix_0.go (ref02_Prefix_l0) 0 st else .fail, fun _ => none, 0⟩
theorem ref02_Prefix_b0_eq (s : AL_ref02_Prefix_0.S.ty.den) : @Eq (Option (AL_ref02_Prefix_0.S.ty.den ⊕ AL_ref02_Prefix_0.Out)) (AL_ref02_Prefix_0.body AF_ref02_Prefix (loopAt (bodyOf Tryz.f30) 0) 0 s).val (ref02_Prefix_b0 s) := by kernel_rfl
theorem ref02_Prefix_eq (s : AS_ref02_Prefix.ty.den) : @Eq (Option AZ_ref02_Prefix.ty.den) (evFn AF_ref02_Prefix Tryz.f30 AS_ref02_Prefix AZ_ref02_Prefix s).val (ref02_Prefix s) := by kernel_rfl
theorem ref02_Prefix_hG : GSound Tryz.prog AF_ref02_Prefix.Γ := ents_sound trivial
theorem ref02_Prefix_la0 : LamOK Tryz.prog AF_ref02_Prefix Tryz.f30.ntmps 0 (loopAt (bodyOf Tryz.f30) 0) :=
  lam_sound Atab ref02_Prefix_hG Amixed (L := AL_ref02_Prefix_0) (f := ref02_Prefix_l0) (b := ref02_Prefix_b0) (m := []) (fun _ => rfl) (by kernel_rfl) (by kernel_rfl) trivial (by kernel_rfl) ref02_Prefix_b0_eq
theorem ref02_Prefix_ok : EntOK Tryz.prog AE_ref02_Prefix :=
  fun_sound (F := AF_ref02_Prefix) Atab ref02_Prefix_hG Amixed (fn := Tryz.f30) (m := [(0, loopAt (bodyOf Tryz.f30) 0)]) Tryz.func30 (by kernel_rfl) (by kernel_rfl) (by kernel_rfl) ⟨ref02_Prefix_la0, trivial⟩ (by kernel_rfl) ref02_Prefix_eq
def AS_ref02_Has : Shape := ⟨[(0, (.dat tapi_Span)), (1, (.dat .str))], []⟩
def AZ_ref02_Has : Shape := ⟨[(0, (.dat .bool))], []⟩
def AE_ref02_Has : Ent := ⟨70, AS_ref02_Has, AZ_ref02_Has, ref02_Has⟩
def AF_ref02_Has : Fx := ⟨Acx, lookupG [], fun k st => .fail, fun _ => none, 0⟩
theorem ref02_Has_eq (s : AS_ref02_Has.ty.den) : @Eq (Option AZ_ref02_Has.ty.den) (evFn AF_ref02_Has Tryz.f70 AS_ref02_Has AZ_ref02_Has s).val (ref02_Has s) := by kernel_rfl
theorem ref02_Has_hG : GSound Tryz.prog AF_ref02_Has.Γ := ents_sound trivial
theorem ref02_Has_ok : EntOK Tryz.prog AE_ref02_Has :=
  fun_sound (F := AF_ref02_Has) Atab ref02_Has_hG Amixed (fn := Tryz.f70) (m := []) Tryz.func70 (by kernel_rfl) (by kernel_rfl) (by kernel_rfl) trivial (by kernel_rfl) ref02_Has_eq
def AL_ref02_In_0 : Lp := ⟨⟨[(0, (.dat (.list tapi_Span))), (1, (.dat .str)), (5, (.dat (.int .i64)))], []⟩, .ret, ⟨[(4, (.dat .bool))], []⟩, (.exit 0), ⟨[], []⟩⟩
def AS_ref02_In : Shape := ⟨[(0, (.dat (.list tapi_Span))), (1, (.dat .str))], []⟩
def AZ_ref02_In : Shape := ⟨[(0, (.dat .bool))], []⟩
def AE_ref02_In : Ent := ⟨68, AS_ref02_In, AZ_ref02_In, ref02_In⟩
def AF_ref02_In : Fx := ⟨Acx, lookupG [AE_ref02_Has], fun k st => bif Nat.beq k 0 then AL_ref02_In_0.go (ref02_In_l0) 0 st else .fail, fun _ => none, 0⟩
theorem ref02_In_b0_eq (s : AL_ref02_In_0.S.ty.den) : @Eq (Option (AL_ref02_In_0.S.ty.den ⊕ AL_ref02_In_0.Out)) (AL_ref02_In_0.body AF_ref02_In (loopAt (bodyOf Tryz.f68) 0) 0 s).val (ref02_In_b0 s) := by kernel_rfl
theorem ref02_In_eq (s : AS_ref02_In.ty.den) : @Eq (Option AZ_ref02_In.ty.den) (evFn AF_ref02_In Tryz.f68 AS_ref02_In AZ_ref02_In s).val (ref02_In s) := by kernel_rfl
theorem ref02_In_hG : GSound Tryz.prog AF_ref02_In.Γ := ents_sound ⟨ref02_Has_ok, trivial⟩
theorem ref02_In_la0 : LamOK Tryz.prog AF_ref02_In Tryz.f68.ntmps 0 (loopAt (bodyOf Tryz.f68) 0) :=
  lam_sound Atab ref02_In_hG Amixed (L := AL_ref02_In_0) (f := ref02_In_l0) (b := ref02_In_b0) (m := []) (fun _ => rfl) (by kernel_rfl) (by kernel_rfl) trivial (by kernel_rfl) ref02_In_b0_eq
theorem ref02_In_ok : EntOK Tryz.prog AE_ref02_In :=
  fun_sound (F := AF_ref02_In) Atab ref02_In_hG Amixed (fn := Tryz.f68) (m := [(0, loopAt (bodyOf Tryz.f68) 0)]) Tryz.func68 (by kernel_rfl) (by kernel_rfl) (by kernel_rfl) ⟨ref02_In_la0, trivial⟩ (by kernel_rfl) ref02_In_eq
def AL_ref05_Without_0 : Lp := ⟨⟨[(0, (.dat (.list tapi_Pair))), (1, (.dat (.list tapi_Span))), (5, (.own tapi_Pair 0)), (6, (.dat (.int .i64)))], [.arr 58 tapi_Pair false]⟩, (.exit 0), ⟨[(5, (.own tapi_Pair 0))], [.arr 58 tapi_Pair false]⟩, (.exit 80000000), ⟨[], []⟩⟩
def AS_ref05_Without : Shape := ⟨[(0, (.dat (.list tapi_Pair))), (1, (.dat (.list tapi_Span)))], []⟩
def AZ_ref05_Without : Shape := ⟨[(0, (.own tapi_Pair 0))], [.arr 58 tapi_Pair false]⟩
def AE_ref05_Without : Ent := ⟨29, AS_ref05_Without, AZ_ref05_Without, ref05_Without⟩
def AF_ref05_Without : Fx := ⟨Acx, lookupG [AE_ref02_In], fun k st => bif Nat.beq k 0 then AL_ref05_Without_0.go (ref05_Without_l0) 0 st else .fail, fun _ => none, 0⟩
theorem ref05_Without_b0_eq (s : AL_ref05_Without_0.S.ty.den) : @Eq (Option (AL_ref05_Without_0.S.ty.den ⊕ AL_ref05_Without_0.Out)) (AL_ref05_Without_0.body AF_ref05_Without (loopAt (bodyOf Tryz.f29) 0) 0 s).val (ref05_Without_b0 s) := by kernel_rfl
theorem ref05_Without_eq (s : AS_ref05_Without.ty.den) : @Eq (Option AZ_ref05_Without.ty.den) (evFn AF_ref05_Without Tryz.f29 AS_ref05_Without AZ_ref05_Without s).val (ref05_Without s) := by kernel_rfl
theorem ref05_Without_hG : GSound Tryz.prog AF_ref05_Without.Γ := ents_sound ⟨ref02_In_ok, trivial⟩
theorem ref05_Without_la0 : LamOK Tryz.prog AF_ref05_Without Tryz.f29.ntmps 0 (loopAt (bodyOf Tryz.f29) 0) :=
  lam_sound Atab ref05_Without_hG Amixed (L := AL_ref05_Without_0) (f := ref05_Without_l0) (b := ref05_Without_b0) (m := []) (fun _ => rfl) (by kernel_rfl) (by kernel_rfl) trivial (by kernel_rfl) ref05_Without_b0_eq
theorem ref05_Without_ok : EntOK Tryz.prog AE_ref05_Without :=
  fun_sound (F := AF_ref05_Without) Atab ref05_Without_hG Amixed (fn := Tryz.f29) (m := [(0, loopAt (bodyOf Tryz.f29) 0)]) Tryz.func29 (by kernel_rfl) (by kernel_rfl) (by kernel_rfl) ⟨ref05_Without_la0, trivial⟩ (by kernel_rfl) ref05_Without_eq
def AS_ref01_guess : Shape := ⟨[(0, (.dat .str)), (1, (.dat (.int .i64)))], []⟩
def AZ_ref01_guess : Shape := ⟨[(0, (.dat tapi_Place))], []⟩
def AE_ref01_guess : Ent := ⟨88, AS_ref01_guess, AZ_ref01_guess, ref01_guess⟩
def AF_ref01_guess : Fx := ⟨Acx, lookupG [], fun k st => .fail, fun _ => none, 0⟩
theorem ref01_guess_eq (s : AS_ref01_guess.ty.den) : @Eq (Option AZ_ref01_guess.ty.den) (evFn AF_ref01_guess Tryz.f88 AS_ref01_guess AZ_ref01_guess s).val (ref01_guess s) := by kernel_rfl
theorem ref01_guess_hG : GSound Tryz.prog AF_ref01_guess.Γ := ents_sound trivial
theorem ref01_guess_ok : EntOK Tryz.prog AE_ref01_guess :=
  fun_sound (F := AF_ref01_guess) Atab ref01_guess_hG Amixed (fn := Tryz.f88) (m := []) Tryz.func88 (by kernel_rfl) (by kernel_rfl) (by kernel_rfl) trivial (by kernel_rfl) ref01_guess_eq
def AL_ref01_Body_0 : Lp := ⟨⟨[(0, (.dat (.int .i64))), (3, (.dat .str)), (4, (.dat (.int .i64)))], []⟩, (.exit 0), ⟨[(3, (.dat .str))], []⟩, (.exit 80000000), ⟨[], []⟩⟩
def AS_ref01_Body : Shape := ⟨[(0, (.dat (.int .i64)))], []⟩
def AZ_ref01_Body : Shape := ⟨[(0, (.dat .str))], []⟩
def AE_ref01_Body : Ent := ⟨132, AS_ref01_Body, AZ_ref01_Body, ref01_Body⟩
def AF_ref01_Body : Fx := ⟨Acx, lookupG [], fun k st => bif Nat.beq k 0 then AL_ref01_Body_0.go (ref01_Body_l0) 0 st else .fail, fun _ => none, 0⟩
theorem ref01_Body_b0_eq (s : AL_ref01_Body_0.S.ty.den) : @Eq (Option (AL_ref01_Body_0.S.ty.den ⊕ AL_ref01_Body_0.Out)) (AL_ref01_Body_0.body AF_ref01_Body (loopAt (bodyOf Tryz.f132) 0) 0 s).val (ref01_Body_b0 s) := by kernel_rfl
theorem ref01_Body_eq (s : AS_ref01_Body.ty.den) : @Eq (Option AZ_ref01_Body.ty.den) (evFn AF_ref01_Body Tryz.f132 AS_ref01_Body AZ_ref01_Body s).val (ref01_Body s) := by kernel_rfl
theorem ref01_Body_hG : GSound Tryz.prog AF_ref01_Body.Γ := ents_sound trivial
theorem ref01_Body_la0 : LamOK Tryz.prog AF_ref01_Body Tryz.f132.ntmps 0 (loopAt (bodyOf Tryz.f132) 0) :=
  lam_sound Atab ref01_Body_hG Amixed (L := AL_ref01_Body_0) (f := ref01_Body_l0) (b := ref01_Body_b0) (m := []) (fun _ => rfl) (by kernel_rfl) (by kernel_rfl) trivial (by kernel_rfl) ref01_Body_b0_eq
theorem ref01_Body_ok : EntOK Tryz.prog AE_ref01_Body :=
  fun_sound (F := AF_ref01_Body) Atab ref01_Body_hG Amixed (fn := Tryz.f132) (m := [(0, loopAt (bodyOf Tryz.f132) 0)]) Tryz.func132 (by kernel_rfl) (by kernel_rfl) (by kernel_rfl) ⟨ref01_Body_la0, trivial⟩ (by kernel_rfl) ref01_Body_eq
def AL_ref01_IsBody_0 : Lp := ⟨⟨[(0, (.dat .str)), (3, (.dat (.int .i64))), (4, (.dat (.int .i64)))], []⟩, (.exit 0), ⟨[(0, (.dat .str)), (3, (.dat (.int .i64)))], []⟩, (.exit 80000000), ⟨[], []⟩⟩
def AS_ref01_IsBody : Shape := ⟨[(0, (.dat .str))], []⟩
def AZ_ref01_IsBody : Shape := ⟨[(0, (.dat .bool))], []⟩
def AE_ref01_IsBody : Ent := ⟨121, AS_ref01_IsBody, AZ_ref01_IsBody, ref01_IsBody⟩
def AF_ref01_IsBody : Fx := ⟨Acx, lookupG [AE_ref01_Body], fun k st => bif Nat.beq k 0 then AL_ref01_IsBody_0.go (ref01_IsBody_l0) 0 st else .fail, fun _ => none, 0⟩
theorem ref01_IsBody_b0_eq (s : AL_ref01_IsBody_0.S.ty.den) : @Eq (Option (AL_ref01_IsBody_0.S.ty.den ⊕ AL_ref01_IsBody_0.Out)) (AL_ref01_IsBody_0.body AF_ref01_IsBody (loopAt (bodyOf Tryz.f121) 0) 0 s).val (ref01_IsBody_b0 s) := by kernel_rfl
theorem ref01_IsBody_eq (s : AS_ref01_IsBody.ty.den) : @Eq (Option AZ_ref01_IsBody.ty.den) (evFn AF_ref01_IsBody Tryz.f121 AS_ref01_IsBody AZ_ref01_IsBody s).val (ref01_IsBody s) := by kernel_rfl
theorem ref01_IsBody_hG : GSound Tryz.prog AF_ref01_IsBody.Γ := ents_sound ⟨ref01_Body_ok, trivial⟩
theorem ref01_IsBody_la0 : LamOK Tryz.prog AF_ref01_IsBody Tryz.f121.ntmps 0 (loopAt (bodyOf Tryz.f121) 0) :=
  lam_sound Atab ref01_IsBody_hG Amixed (L := AL_ref01_IsBody_0) (f := ref01_IsBody_l0) (b := ref01_IsBody_b0) (m := []) (fun _ => rfl) (by kernel_rfl) (by kernel_rfl) trivial (by kernel_rfl) ref01_IsBody_b0_eq
theorem ref01_IsBody_ok : EntOK Tryz.prog AE_ref01_IsBody :=
  fun_sound (F := AF_ref01_IsBody) Atab ref01_IsBody_hG Amixed (fn := Tryz.f121) (m := [(0, loopAt (bodyOf Tryz.f121) 0)]) Tryz.func121 (by kernel_rfl) (by kernel_rfl) (by kernel_rfl) ⟨ref01_IsBody_la0, trivial⟩ (by kernel_rfl) ref01_IsBody_eq
def AL_ref01_right_c100002 : Lp := ⟨⟨[(1, (.ptr 0 tapi_Place 0 [])), (32, (.dat .bool))], [.box 102 tapi_Place (.dat tapi_Place)]⟩, .nrm, ⟨[(1, (.ptr 0 tapi_Place 0 []))], [.box 102 tapi_Place (.dat tapi_Place)]⟩, .ret, ⟨[(2, (.dat .bool))], []⟩⟩
def AL_ref01_right_c10 : Lp := ⟨⟨[(1, (.ptr 0 tapi_Place 0 []))], [.box 102 tapi_Place (.dat tapi_Place)]⟩, .ret, ⟨[(2, (.dat .bool))], []⟩, (.exit 90000010), ⟨[], []⟩⟩
def AL_ref01_right_c3 : Lp := ⟨⟨[(1, (.ptr 0 tapi_Place 0 []))], [.box 102 tapi_Place (.dat tapi_Place)]⟩, .ret, ⟨[(2, (.dat .bool))], []⟩, (.exit 90000003), ⟨[], []⟩⟩
def AS_ref01_right : Shape := ⟨[(0, (.dat tapi_Place))], []⟩
def AZ_ref01_right : Shape := ⟨[(0, (.dat .bool))], []⟩
def AE_ref01_right : Ent := ⟨109, AS_ref01_right, AZ_ref01_right, ref01_right⟩
def AF_ref01_right : Fx := ⟨Acx, lookupG [AE_ref01_Name, AE_ref01_Valid, AE_ref01_IsBody], fun k st => .fail, fun _ => none, 0⟩
def AC_ref01_right : Cuts := [(100002, AL_ref01_right_c100002.go (ref01_right_c100002) 0), (10, AL_ref01_right_c10.go (ref01_right_c10) 0), (3, AL_ref01_right_c3.go (ref01_right_c3) 0)]
theorem ref01_right_c100002_eq (s : AL_ref01_right_c100002.S.ty.den) : @Eq (Option AL_ref01_right_c100002.Out) ((evK AF_ref01_right AC_ref01_right (tailOf (bodyOf Tryz.f109) 100002) 0 (AL_ref01_right_c100002.S.enc s)).bind fun (e, st) => AL_ref01_right_c100002.out AF_ref01_right.m e st).val (ref01_right_c100002 s) := by kernel_rfl
theorem ref01_right_c10_eq (s : AL_ref01_right_c10.S.ty.den) : @Eq (Option AL_ref01_right_c10.Out) ((evK AF_ref01_right AC_ref01_right (tailOf (bodyOf Tryz.f109) 10) 0 (AL_ref01_right_c10.S.enc s)).bind fun (e, st) => AL_ref01_right_c10.out AF_ref01_right.m e st).val (ref01_right_c10 s) := by kernel_rfl
theorem ref01_right_c3_eq (s : AL_ref01_right_c3.S.ty.den) : @Eq (Option AL_ref01_right_c3.Out) ((evK AF_ref01_right AC_ref01_right (tailOf (bodyOf Tryz.f109) 3) 0 (AL_ref01_right_c3.S.enc s)).bind fun (e, st) => AL_ref01_right_c3.out AF_ref01_right.m e st).val (ref01_right_c3 s) := by kernel_rfl
theorem ref01_right_eq (s : AE_ref01_right.S.ty.den) : (evFnK AF_ref01_right AC_ref01_right Tryz.f109 AE_ref01_right.S AE_ref01_right.Z s).val = AE_ref01_right.g s := by kernel_rfl
theorem ref01_right_hG : GSound Tryz.prog AF_ref01_right.Γ := ents_sound ⟨ref01_Name_ok, ref01_Valid_ok, ref01_IsBody_ok, trivial⟩
theorem ref01_right_c100002_ok : CutOK Tryz.prog AF_ref01_right Tryz.f109.ntmps (AL_ref01_right_c100002.go (ref01_right_c100002) 0) (tailOf (bodyOf Tryz.f109) 100002) :=
  cut_sound Atab ref01_right_hG Amixed (L := AL_ref01_right_c100002) (k := 0) (f := ref01_right_c100002) (C := AC_ref01_right) (l := []) (m := []) (by kernel_rfl) trivial (by kernel_rfl) trivial (by kernel_rfl) ref01_right_c100002_eq
theorem ref01_right_c10_ok : CutOK Tryz.prog AF_ref01_right Tryz.f109.ntmps (AL_ref01_right_c10.go (ref01_right_c10) 0) (tailOf (bodyOf Tryz.f109) 10) :=
  cut_sound Atab ref01_right_hG Amixed (L := AL_ref01_right_c10) (k := 0) (f := ref01_right_c10) (C := AC_ref01_right) (l := []) (m := []) (by kernel_rfl) trivial (by kernel_rfl) trivial (by kernel_rfl) ref01_right_c10_eq
theorem ref01_right_c3_ok : CutOK Tryz.prog AF_ref01_right Tryz.f109.ntmps (AL_ref01_right_c3.go (ref01_right_c3) 0) (tailOf (bodyOf Tryz.f109) 3) :=
  cut_sound Atab ref01_right_hG Amixed (L := AL_ref01_right_c3) (k := 0) (f := ref01_right_c3) (C := AC_ref01_right) (l := []) (m := [(AL_ref01_right_c10.go (ref01_right_c10) 0, tailOf (bodyOf Tryz.f109) 10)]) (by kernel_rfl) trivial (by kernel_rfl) ⟨ref01_right_c10_ok, trivial⟩ (by kernel_rfl) ref01_right_c3_eq
theorem ref01_right_ok : EntOK Tryz.prog AE_ref01_right :=
  fun_soundK (C := AC_ref01_right) (F := AF_ref01_right) Atab ref01_right_hG Amixed (fn := Tryz.f109) (l := []) (m := [(AL_ref01_right_c100002.go (ref01_right_c100002) 0, tailOf (bodyOf Tryz.f109) 100002), (AL_ref01_right_c3.go (ref01_right_c3) 0, tailOf (bodyOf Tryz.f109) 3)]) Tryz.func109 (by kernel_rfl) (by kernel_rfl) (by kernel_rfl) trivial (by kernel_rfl) ⟨ref01_right_c100002_ok, ref01_right_c3_ok, trivial⟩ (by kernel_rfl) ref01_right_eq
def AS_ref01_Key : Shape := ⟨[(0, (.dat tapi_Place))], []⟩
def AZ_ref01_Key : Shape := ⟨[(0, (.dat .str)), (1, (.dat (.int .i64)))], []⟩
def AE_ref01_Key : Ent := ⟨89, AS_ref01_Key, AZ_ref01_Key, ref01_Key⟩
def AF_ref01_Key : Fx := ⟨Acx, lookupG [AE_ref01_right], fun k st => .fail, fun _ => none, 0⟩
theorem ref01_Key_eq (s : AS_ref01_Key.ty.den) : @Eq (Option AZ_ref01_Key.ty.den) (evFn AF_ref01_Key Tryz.f89 AS_ref01_Key AZ_ref01_Key s).val (ref01_Key s) := by kernel_rfl
theorem ref01_Key_hG : GSound Tryz.prog AF_ref01_Key.Γ := ents_sound ⟨ref01_right_ok, trivial⟩
theorem ref01_Key_ok : EntOK Tryz.prog AE_ref01_Key :=
  fun_sound (F := AF_ref01_Key) Atab ref01_Key_hG Amixed (fn := Tryz.f89) (m := []) Tryz.func89 (by kernel_rfl) (by kernel_rfl) (by kernel_rfl) trivial (by kernel_rfl) ref01_Key_eq
def AL_ref01_Place_0 : Lp := ⟨⟨[(0, (.dat .str)), (2, (.ptr 0 tapi_Place 0 [])), (4, (.dat (.int .i64)))], [.box 102 tapi_Place (.agg [(.dat .str), (.dat (.int .i64)), (.dat (.int .i64)), (.dat .str)])]⟩, .ret, ⟨[(2, (.ptr 0 tapi_Place 0 [])), (3, (.dat (.int .i64)))], [.box 102 tapi_Place (.dat tapi_Place)]⟩, (.exit 0), ⟨[(2, (.ptr 0 tapi_Place 0 []))], [.box 102 tapi_Place (.agg [(.dat .str), (.dat (.int .i64)), (.dat (.int .i64)), (.dat .str)])]⟩⟩
def AS_ref01_Place : Shape := ⟨[(0, (.dat .str))], []⟩
def AZ_ref01_Place : Shape := ⟨[(0, (.dat tapi_Place)), (1, (.dat (.int .i64)))], []⟩
def AE_ref01_Place : Ent := ⟨69, AS_ref01_Place, AZ_ref01_Place, ref01_Place⟩
def AF_ref01_Place : Fx := ⟨Acx, lookupG [AE_ref01_guess, AE_ref01_Key], fun k st => bif Nat.beq k 0 then AL_ref01_Place_0.go (ref01_Place_l0) 0 st else .fail, fun _ => none, 0⟩
theorem ref01_Place_b0_eq (s : AL_ref01_Place_0.S.ty.den) : @Eq (Option (AL_ref01_Place_0.S.ty.den ⊕ AL_ref01_Place_0.Out)) (AL_ref01_Place_0.body AF_ref01_Place (loopAt (bodyOf Tryz.f69) 0) 0 s).val (ref01_Place_b0 s) := by kernel_rfl
theorem ref01_Place_eq (s : AS_ref01_Place.ty.den) : @Eq (Option AZ_ref01_Place.ty.den) (evFn AF_ref01_Place Tryz.f69 AS_ref01_Place AZ_ref01_Place s).val (ref01_Place s) := by kernel_rfl
theorem ref01_Place_hG : GSound Tryz.prog AF_ref01_Place.Γ := ents_sound ⟨ref01_guess_ok, ref01_Key_ok, trivial⟩
theorem ref01_Place_la0 : LamOK Tryz.prog AF_ref01_Place Tryz.f69.ntmps 0 (loopAt (bodyOf Tryz.f69) 0) :=
  lam_sound Atab ref01_Place_hG Amixed (L := AL_ref01_Place_0) (f := ref01_Place_l0) (b := ref01_Place_b0) (m := []) (fun _ => rfl) (by kernel_rfl) (by kernel_rfl) trivial (by kernel_rfl) ref01_Place_b0_eq
theorem ref01_Place_ok : EntOK Tryz.prog AE_ref01_Place :=
  fun_sound (F := AF_ref01_Place) Atab ref01_Place_hG Amixed (fn := Tryz.f69) (m := [(0, loopAt (bodyOf Tryz.f69) 0)]) Tryz.func69 (by kernel_rfl) (by kernel_rfl) (by kernel_rfl) ⟨ref01_Place_la0, trivial⟩ (by kernel_rfl) ref01_Place_eq
def AS_ref03_Charge : Shape := ⟨[(0, (.dat tapi_Pair))], []⟩
def AZ_ref03_Charge : Shape := ⟨[(0, (.dat tapi_Use))], []⟩
def AE_ref03_Charge : Ent := ⟨38, AS_ref03_Charge, AZ_ref03_Charge, ref03_Charge⟩
def AF_ref03_Charge : Fx := ⟨Acx, lookupG [AE_ref01_Place], fun k st => .fail, fun _ => none, 0⟩
theorem ref03_Charge_eq (s : AS_ref03_Charge.ty.den) : @Eq (Option AZ_ref03_Charge.ty.den) (evFn AF_ref03_Charge Tryz.f38 AS_ref03_Charge AZ_ref03_Charge s).val (ref03_Charge s) := by kernel_rfl
theorem ref03_Charge_hG : GSound Tryz.prog AF_ref03_Charge.Γ := ents_sound ⟨ref01_Place_ok, trivial⟩
theorem ref03_Charge_ok : EntOK Tryz.prog AE_ref03_Charge :=
  fun_sound (F := AF_ref03_Charge) Atab ref03_Charge_hG Amixed (fn := Tryz.f38) (m := []) Tryz.func38 (by kernel_rfl) (by kernel_rfl) (by kernel_rfl) trivial (by kernel_rfl) ref03_Charge_eq
def AL_ref03_Total_0 : Lp := ⟨⟨[(0, (.dat (.list tapi_Pair))), (2, (.ptr 0 tapi_Use 0 [])), (3, (.ptr 1 tapi_Use 0 [])), (4, (.dat (.int .i64)))], [.box 32 tapi_Use (.agg [(.dat (.int .i64)), (.dat (.int .i64))]), .box 32 tapi_Use (.agg [(.dat (.int .i64)), (.dat (.int .i64))])]⟩, (.exit 0), ⟨[(2, (.ptr 0 tapi_Use 0 [])), (3, (.ptr 1 tapi_Use 0 []))], [.box 32 tapi_Use (.agg [(.dat (.int .i64)), (.dat (.int .i64))]), .box 32 tapi_Use (.agg [(.dat (.int .i64)), (.dat (.int .i64))])]⟩, (.exit 80000000), ⟨[], []⟩⟩
def AS_ref03_Total : Shape := ⟨[(0, (.dat (.list tapi_Pair)))], []⟩
def AZ_ref03_Total : Shape := ⟨[(0, (.dat tapi_Use))], []⟩
def AE_ref03_Total : Ent := ⟨32, AS_ref03_Total, AZ_ref03_Total, ref03_Total⟩
def AF_ref03_Total : Fx := ⟨Acx, lookupG [AE_ref03_Charge], fun k st => bif Nat.beq k 0 then AL_ref03_Total_0.go (ref03_Total_l0) 0 st else .fail, fun _ => none, 0⟩
theorem ref03_Total_b0_eq (s : AL_ref03_Total_0.S.ty.den) : @Eq (Option (AL_ref03_Total_0.S.ty.den ⊕ AL_ref03_Total_0.Out)) (AL_ref03_Total_0.body AF_ref03_Total (loopAt (bodyOf Tryz.f32) 0) 0 s).val (ref03_Total_b0 s) := by kernel_rfl
theorem ref03_Total_eq (s : AS_ref03_Total.ty.den) : @Eq (Option AZ_ref03_Total.ty.den) (evFn AF_ref03_Total Tryz.f32 AS_ref03_Total AZ_ref03_Total s).val (ref03_Total s) := by kernel_rfl
theorem ref03_Total_hG : GSound Tryz.prog AF_ref03_Total.Γ := ents_sound ⟨ref03_Charge_ok, trivial⟩
theorem ref03_Total_la0 : LamOK Tryz.prog AF_ref03_Total Tryz.f32.ntmps 0 (loopAt (bodyOf Tryz.f32) 0) :=
  lam_sound Atab ref03_Total_hG Amixed (L := AL_ref03_Total_0) (f := ref03_Total_l0) (b := ref03_Total_b0) (m := []) (fun _ => rfl) (by kernel_rfl) (by kernel_rfl) trivial (by kernel_rfl) ref03_Total_b0_eq
theorem ref03_Total_ok : EntOK Tryz.prog AE_ref03_Total :=
  fun_sound (F := AF_ref03_Total) Atab ref03_Total_hG Amixed (fn := Tryz.f32) (m := [(0, loopAt (bodyOf Tryz.f32) 0)]) Tryz.func32 (by kernel_rfl) (by kernel_rfl) (by kernel_rfl) ⟨ref03_Total_la0, trivial⟩ (by kernel_rfl) ref03_Total_eq
def AS_ref20_Add : Shape := ⟨[(0, (.dat tapi_Use)), (1, (.dat tapi_Use))], []⟩
def AZ_ref20_Add : Shape := ⟨[(0, (.dat tapi_Use))], []⟩
def AE_ref20_Add : Ent := ⟨31, AS_ref20_Add, AZ_ref20_Add, ref20_Add⟩
def AF_ref20_Add : Fx := ⟨Acx, lookupG [], fun k st => .fail, fun _ => none, 0⟩
theorem ref20_Add_eq (s : AS_ref20_Add.ty.den) : @Eq (Option AZ_ref20_Add.ty.den) (evFn AF_ref20_Add Tryz.f31 AS_ref20_Add AZ_ref20_Add s).val (ref20_Add s) := by kernel_rfl
theorem ref20_Add_hG : GSound Tryz.prog AF_ref20_Add.Γ := ents_sound trivial
theorem ref20_Add_ok : EntOK Tryz.prog AE_ref20_Add :=
  fun_sound (F := AF_ref20_Add) Atab ref20_Add_hG Amixed (fn := Tryz.f31) (m := []) Tryz.func31 (by kernel_rfl) (by kernel_rfl) (by kernel_rfl) trivial (by kernel_rfl) ref20_Add_eq
def AS_ref02_One : Shape := ⟨[(0, (.dat .str))], []⟩
def AZ_ref02_One : Shape := ⟨[(0, (.dat tapi_Span))], []⟩
def AE_ref02_One : Ent := ⟨35, AS_ref02_One, AZ_ref02_One, ref02_One⟩
def AF_ref02_One : Fx := ⟨Acx, lookupG [], fun k st => .fail, fun _ => none, 0⟩
theorem ref02_One_eq (s : AS_ref02_One.ty.den) : @Eq (Option AZ_ref02_One.ty.den) (evFn AF_ref02_One Tryz.f35 AS_ref02_One AZ_ref02_One s).val (ref02_One s) := by kernel_rfl
theorem ref02_One_hG : GSound Tryz.prog AF_ref02_One.Γ := ents_sound trivial
theorem ref02_One_ok : EntOK Tryz.prog AE_ref02_One :=
  fun_sound (F := AF_ref02_One) Atab ref02_One_hG Amixed (fn := Tryz.f35) (m := []) Tryz.func35 (by kernel_rfl) (by kernel_rfl) (by kernel_rfl) trivial (by kernel_rfl) ref02_One_eq
def AS_ref02_Begins : Shape := ⟨[(0, (.dat .str)), (1, (.dat .str))], []⟩
def AZ_ref02_Begins : Shape := ⟨[(0, (.dat .bool))], []⟩
def AE_ref02_Begins : Ent := ⟨37, AS_ref02_Begins, AZ_ref02_Begins, ref02_Begins⟩
def AF_ref02_Begins : Fx := ⟨Acx, lookupG [], fun k st => .fail, fun _ => none, 0⟩
theorem ref02_Begins_eq (s : AS_ref02_Begins.ty.den) : @Eq (Option AZ_ref02_Begins.ty.den) (evFn AF_ref02_Begins Tryz.f37 AS_ref02_Begins AZ_ref02_Begins s).val (ref02_Begins s) := by kernel_rfl
theorem ref02_Begins_hG : GSound Tryz.prog AF_ref02_Begins.Γ := ents_sound trivial
theorem ref02_Begins_ok : EntOK Tryz.prog AE_ref02_Begins :=
  fun_sound (F := AF_ref02_Begins) Atab ref02_Begins_hG Amixed (fn := Tryz.f37) (m := []) Tryz.func37 (by kernel_rfl) (by kernel_rfl) (by kernel_rfl) trivial (by kernel_rfl) ref02_Begins_eq
def AS_law20_QuotaSums : Shape := ⟨[(0, (.dat (.list (.pair (.int .u8) (.pair (.int .u8) (.pair (.int .u8) .unit)))))), (1, (.dat (.int .u8))), (2, (.dat (.pair (.int .u8) (.pair (.int .u8) (.pair (.int .u8) .unit)))))], []⟩
def AZ_law20_QuotaSums : Shape := ⟨[(0, (.dat .bool))], []⟩
def AE_law20_QuotaSums : Ent := ⟨5, AS_law20_QuotaSums, AZ_law20_QuotaSums, law20_QuotaSums⟩
def AF_law20_QuotaSums : Fx := ⟨Acx, lookupG [AE_quota_Of, AE_law20_sanity, AE_ref20_Path, AE_ref05_Key, AE_ref05_Value, AE_ref05_Insert, AE_ref05_Table, AE_ref02_Prefix, AE_ref05_Without, AE_ref03_Charge, AE_ref03_Total, AE_ref20_Add, AE_ref02_One, AE_ref02_Begins], fun k st => .fail, fun _ => none, 0⟩
theorem law20_QuotaSums_eq (s : AS_law20_QuotaSums.ty.den) : @Eq (Option AZ_law20_QuotaSums.ty.den) (evFn AF_law20_QuotaSums Tryz.f5 AS_law20_QuotaSums AZ_law20_QuotaSums s).val (law20_QuotaSums s) := by kernel_rfl
theorem law20_QuotaSums_hG : GSound Tryz.prog AF_law20_QuotaSums.Γ := ents_sound ⟨quota_Of_ok, law20_sanity_ok, ref20_Path_ok, ref05_Key_ok, ref05_Value_ok, ref05_Insert_ok, ref05_Table_ok, ref02_Prefix_ok, ref05_Without_ok, ref03_Charge_ok, ref03_Total_ok, ref20_Add_ok, ref02_One_ok, ref02_Begins_ok, trivial⟩
theorem law20_QuotaSums_ok : EntOK Tryz.prog AE_law20_QuotaSums :=
  fun_sound (F := AF_law20_QuotaSums) Atab law20_QuotaSums_hG Amixed (fn := Tryz.f5) (m := []) Tryz.func5 (by kernel_rfl) (by kernel_rfl) (by kernel_rfl) trivial (by kernel_rfl) law20_QuotaSums_eq


end D
