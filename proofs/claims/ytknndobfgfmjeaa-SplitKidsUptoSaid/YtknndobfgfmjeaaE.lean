/- Entries, by program. -/
import Derived.Test.YtknndobfgfmjeaaD
import Derived.Test.YtknndobfgfmjeaaChecked
set_option linter.unusedVariables false
set_option maxRecDepth 100000
open Go Go.X Go.Proofs D
namespace D
def Acx : Cx := ⟨[(3, ⟨(.int .i64), 0, [], 8, false, false⟩), (4, ⟨.bool, 0, [], 1, false, false⟩), (5, ⟨(.int .u8), 0, [], 1, false, false⟩), (9, ⟨.str, 0, [], 16, false, false⟩), (22, ⟨(.list (.pair (.int .u8) (.pair (.int .u8) (.pair (.int .u8) .unit)))), 63, [], 3, false, false⟩), (24, ⟨(.list tapi_Pair), 45, [], 40, false, false⟩), (26, ⟨(.list (.list tapi_Pair)), 24, [], 24, false, false⟩), (30, ⟨(.pair (.int .u8) (.pair (.int .u8) (.pair (.int .u8) .unit))), 0, [5, 5, 5], 3, false, true⟩), (32, ⟨tapi_Shape, 0, [3, 3, 3], 24, true, false⟩), (34, ⟨(.list tapi_Node), 43, [], 120, false, false⟩), (35, ⟨(.list .str), 9, [], 16, false, false⟩), (36, ⟨(.list tapi_Msg), 59, [], 112, false, false⟩), (38, ⟨tref13_Split, 0, [34, 35, 36], 72, false, false⟩), (40, ⟨(.list (.int .i64)), 3, [], 8, false, false⟩), (41, ⟨(.list tapi_Sum), 72, [], 32, false, false⟩), (43, ⟨tapi_Node, 0, [24, 35, 40, 41, 36], 120, false, false⟩), (45, ⟨tapi_Pair, 0, [9, 9, 3], 40, true, false⟩), (47, ⟨(.list (.int .u8)), 5, [], 1, false, false⟩), (48, ⟨(.list (.pair (.int .u8) (.pair (.int .u8) (.pair (.int .u8) (.pair (.int .u8) .unit))))), 73, [], 4, false, false⟩), (49, ⟨(.list (.pair (.int .u8) (.pair (.int .u8) (.pair (.int .u8) (.pair (.int .u8) (.pair (.int .u8) (.pair (.int .u8) .unit))))))), 79, [], 6, false, false⟩), (51, ⟨tref10_Raw, 0, [22, 47, 47, 48, 49], 120, false, false⟩), (57, ⟨tapi_Span, 0, [9, 9], 32, true, false⟩), (59, ⟨tapi_Msg, 0, [3, 9, 9, 57, 9, 9, 3], 112, true, false⟩), (63, ⟨(.pair (.int .u8) (.pair (.int .u8) (.pair (.int .u8) .unit))), 0, [5, 5, 5], 3, false, true⟩), (70, ⟨tapi_Range, 0, [3, 3], 16, true, false⟩), (72, ⟨tapi_Sum, 0, [70, 70], 32, true, false⟩), (73, ⟨(.pair (.int .u8) (.pair (.int .u8) (.pair (.int .u8) (.pair (.int .u8) .unit)))), 0, [5, 5, 5, 5], 4, false, true⟩), (79, ⟨(.pair (.int .u8) (.pair (.int .u8) (.pair (.int .u8) (.pair (.int .u8) (.pair (.int .u8) (.pair (.int .u8) .unit)))))), 0, [5, 5, 5, 5, 5, 5], 6, false, true⟩), (80, ⟨(.list (.list (.int .i64))), 40, [], 24, false, false⟩), (82, ⟨(.list (.list tapi_Sum)), 41, [], 24, false, false⟩)], fun _ _ => false⟩
theorem Atab : TabOK Try.prog Acx := tab_soundE (by kernel_rfl)
theorem Amixed : Try.prog.follows .mixedOrders = true := by kernel_rfl
/-! downspout/split.cut[downspout/api.Pair] -/
def AL_split_cut_api_Pair_0 : Lp := ⟨⟨[(0, (.dat (.list tapi_Pair))), (5, (.dat (.int .i64))), (6, (.own (.list tapi_Pair) 0)), (24, (.dat (.int .i64))), (25, (.dat (.int .i64)))], [.arr 24 (.list tapi_Pair) false]⟩, (.exit 0), ⟨[(6, (.own (.list tapi_Pair) 0))], [.arr 24 (.list tapi_Pair) false]⟩, .nrm, ⟨[], []⟩⟩
def AS_split_cut_api_Pair : Shape := ⟨[(0, (.dat (.list tapi_Pair))), (1, (.dat (.int .i64)))], []⟩
def AZ_split_cut_api_Pair : Shape := ⟨[(0, (.dat (.list (.list tapi_Pair))))], []⟩
def AE_split_cut_api_Pair : Ent := ⟨19, AS_split_cut_api_Pair, AZ_split_cut_api_Pair, split_cut_api_Pair⟩
def AF_split_cut_api_Pair : Fx := ⟨Acx, lookupG [], fun k st => bif Nat.beq k 0 then AL_split_cut_api_Pair_0.go split_cut_api_Pair_l0 0 st else .fail, fun _ => none, 0⟩
theorem split_cut_api_Pair_b0_eq (s : AL_split_cut_api_Pair_0.S.ty.den) : @Eq (Option (AL_split_cut_api_Pair_0.S.ty.den ⊕ AL_split_cut_api_Pair_0.Out)) (AL_split_cut_api_Pair_0.body AF_split_cut_api_Pair (loopAt (bodyOf Try.f19) 0) 0 s).val (split_cut_api_Pair_b0 s) := by kernel_rfl
theorem split_cut_api_Pair_eq (s : AS_split_cut_api_Pair.ty.den) : @Eq (Option AZ_split_cut_api_Pair.ty.den) (evFn AF_split_cut_api_Pair Try.f19 AS_split_cut_api_Pair AZ_split_cut_api_Pair s).val (split_cut_api_Pair s) := by kernel_rfl
theorem split_cut_api_Pair_hG : GSound Try.prog AF_split_cut_api_Pair.Γ := ents_sound trivial
theorem split_cut_api_Pair_la0 : LamOK Try.prog AF_split_cut_api_Pair Try.f19.ntmps 0 (loopAt (bodyOf Try.f19) 0) :=
  lam_sound Atab split_cut_api_Pair_hG Amixed (L := AL_split_cut_api_Pair_0) (f := split_cut_api_Pair_l0) (b := split_cut_api_Pair_b0) (m := []) (fun _ => rfl) (by kernel_rfl) (by kernel_rfl) trivial (by kernel_rfl) split_cut_api_Pair_b0_eq
theorem split_cut_api_Pair_ok : EntOK Try.prog AE_split_cut_api_Pair :=
  fun_sound (F := AF_split_cut_api_Pair) Atab split_cut_api_Pair_hG Amixed (fn := Try.f19) (m := [(0, loopAt (bodyOf Try.f19) 0)]) Try.func19 (by kernel_rfl) (by kernel_rfl) (by kernel_rfl) ⟨split_cut_api_Pair_la0, trivial⟩ (by kernel_rfl) split_cut_api_Pair_eq
/-! downspout/split.Pieces -/
def AS_split_Pieces : Shape := ⟨[(0, (.dat (.list tapi_Pair))), (1, (.dat (.int .i64)))], []⟩
def AZ_split_Pieces : Shape := ⟨[(0, (.dat (.list (.list tapi_Pair))))], []⟩
def AE_split_Pieces : Ent := ⟨8, AS_split_Pieces, AZ_split_Pieces, split_Pieces⟩
def AF_split_Pieces : Fx := ⟨Acx, lookupG [AE_split_cut_api_Pair], fun k st => .fail, fun _ => none, 0⟩
theorem split_Pieces_eq (s : AS_split_Pieces.ty.den) : @Eq (Option AZ_split_Pieces.ty.den) (evFn AF_split_Pieces Try.f8 AS_split_Pieces AZ_split_Pieces s).val (split_Pieces s) := by kernel_rfl
theorem split_Pieces_hG : GSound Try.prog AF_split_Pieces.Γ := ents_sound ⟨split_cut_api_Pair_ok, trivial⟩
theorem split_Pieces_ok : EntOK Try.prog AE_split_Pieces :=
  fun_sound (F := AF_split_Pieces) Atab split_Pieces_hG Amixed (fn := Try.f8) (m := []) Try.func8 (by kernel_rfl) (by kernel_rfl) (by kernel_rfl) trivial (by kernel_rfl) split_Pieces_eq
/-! downspout/split.Leaf -/
def AL_split_Leaf_0 : Lp := ⟨⟨[(6, (.own tapi_Node 0)), (7, (.own .str 1)), (14, (.dat (.list (.list tapi_Pair)))), (15, (.dat (.int .i64))), (16, (.dat (.int .i64)))], [.arr 43 tapi_Node false, .arr 9 .str false]⟩, (.exit 0), ⟨[(6, (.own tapi_Node 0)), (7, (.own .str 1))], [.arr 43 tapi_Node false, .arr 9 .str false]⟩, .nrm, ⟨[], []⟩⟩
def AS_split_Leaf : Shape := ⟨[(0, (.dat tapi_Node)), (1, (.dat tapi_Shape))], []⟩
def AZ_split_Leaf : Shape := ⟨[(0, (.dat (.list tapi_Node))), (1, (.dat (.list .str)))], []⟩
def AE_split_Leaf : Ent := ⟨20, AS_split_Leaf, AZ_split_Leaf, split_Leaf⟩
def AF_split_Leaf : Fx := ⟨Acx, lookupG [AE_split_cut_api_Pair], fun k st => bif Nat.beq k 0 then AL_split_Leaf_0.go split_Leaf_l0 0 st else .fail, fun _ => none, 0⟩
theorem split_Leaf_b0_eq (s : AL_split_Leaf_0.S.ty.den) : @Eq (Option (AL_split_Leaf_0.S.ty.den ⊕ AL_split_Leaf_0.Out)) (AL_split_Leaf_0.body AF_split_Leaf (loopAt (bodyOf Try.f20) 0) 0 s).val (split_Leaf_b0 s) := by kernel_rfl
theorem split_Leaf_eq (s : AS_split_Leaf.ty.den) : @Eq (Option AZ_split_Leaf.ty.den) (evFn AF_split_Leaf Try.f20 AS_split_Leaf AZ_split_Leaf s).val (split_Leaf s) := by kernel_rfl
theorem split_Leaf_hG : GSound Try.prog AF_split_Leaf.Γ := ents_sound ⟨split_cut_api_Pair_ok, trivial⟩
theorem split_Leaf_la0 : LamOK Try.prog AF_split_Leaf Try.f20.ntmps 0 (loopAt (bodyOf Try.f20) 0) :=
  lam_sound Atab split_Leaf_hG Amixed (L := AL_split_Leaf_0) (f := split_Leaf_l0) (b := split_Leaf_b0) (m := []) (fun _ => rfl) (by kernel_rfl) (by kernel_rfl) trivial (by kernel_rfl) split_Leaf_b0_eq
theorem split_Leaf_ok : EntOK Try.prog AE_split_Leaf :=
  fun_sound (F := AF_split_Leaf) Atab split_Leaf_hG Amixed (fn := Try.f20) (m := [(0, loopAt (bodyOf Try.f20) 0)]) Try.func20 (by kernel_rfl) (by kernel_rfl) (by kernel_rfl) ⟨split_Leaf_la0, trivial⟩ (by kernel_rfl) split_Leaf_eq
/-! downspout/downspoutlaw13.leaf -/
def AS_law13_leaf : Shape := ⟨[(0, (.dat tapi_Node)), (1, (.dat tapi_Shape))], []⟩
def AZ_law13_leaf : Shape := ⟨[(0, (.dat tref13_Split))], []⟩
def AE_law13_leaf : Ent := ⟨11, AS_law13_leaf, AZ_law13_leaf, law13_leaf⟩
def AF_law13_leaf : Fx := ⟨Acx, lookupG [AE_split_Leaf], fun k st => .fail, fun _ => none, 0⟩
theorem law13_leaf_eq (s : AS_law13_leaf.ty.den) : @Eq (Option AZ_law13_leaf.ty.den) (evFn AF_law13_leaf Try.f11 AS_law13_leaf AZ_law13_leaf s).val (law13_leaf s) := by kernel_rfl
theorem law13_leaf_hG : GSound Try.prog AF_law13_leaf.Γ := ents_sound ⟨split_Leaf_ok, trivial⟩
theorem law13_leaf_ok : EntOK Try.prog AE_law13_leaf :=
  fun_sound (F := AF_law13_leaf) Atab law13_leaf_hG Amixed (fn := Try.f11) (m := []) Try.func11 (by kernel_rfl) (by kernel_rfl) (by kernel_rfl) trivial (by kernel_rfl) law13_leaf_eq
/-! downspout/downspoutlaw13.sameTexts -/
def AL_law13_sameTexts_0 : Lp := ⟨⟨[(0, (.dat (.list .str))), (1, (.dat (.list .str))), (5, (.dat (.int .i64)))], []⟩, .ret, ⟨[(4, (.dat .bool))], []⟩, (.exit 0), ⟨[], []⟩⟩
def AS_law13_sameTexts : Shape := ⟨[(0, (.dat (.list .str))), (1, (.dat (.list .str)))], []⟩
def AZ_law13_sameTexts : Shape := ⟨[(0, (.dat .bool))], []⟩
def AE_law13_sameTexts : Ent := ⟨25, AS_law13_sameTexts, AZ_law13_sameTexts, law13_sameTexts⟩
def AF_law13_sameTexts : Fx := ⟨Acx, lookupG [], fun k st => bif Nat.beq k 0 then AL_law13_sameTexts_0.go law13_sameTexts_l0 0 st else .fail, fun _ => none, 0⟩
theorem law13_sameTexts_b0_eq (s : AL_law13_sameTexts_0.S.ty.den) : @Eq (Option (AL_law13_sameTexts_0.S.ty.den ⊕ AL_law13_sameTexts_0.Out)) (AL_law13_sameTexts_0.body AF_law13_sameTexts (loopAt (bodyOf Try.f25) 0) 0 s).val (law13_sameTexts_b0 s) := by kernel_rfl
theorem law13_sameTexts_eq (s : AS_law13_sameTexts.ty.den) : @Eq (Option AZ_law13_sameTexts.ty.den) (evFn AF_law13_sameTexts Try.f25 AS_law13_sameTexts AZ_law13_sameTexts s).val (law13_sameTexts s) := by kernel_rfl
theorem law13_sameTexts_hG : GSound Try.prog AF_law13_sameTexts.Γ := ents_sound trivial
theorem law13_sameTexts_la0 : LamOK Try.prog AF_law13_sameTexts Try.f25.ntmps 0 (loopAt (bodyOf Try.f25) 0) :=
  lam_sound Atab law13_sameTexts_hG Amixed (L := AL_law13_sameTexts_0) (f := law13_sameTexts_l0) (b := law13_sameTexts_b0) (m := []) (fun _ => rfl) (by kernel_rfl) (by kernel_rfl) trivial (by kernel_rfl) law13_sameTexts_b0_eq
theorem law13_sameTexts_ok : EntOK Try.prog AE_law13_sameTexts :=
  fun_sound (F := AF_law13_sameTexts) Atab law13_sameTexts_hG Amixed (fn := Try.f25) (m := [(0, loopAt (bodyOf Try.f25) 0)]) Try.func25 (by kernel_rfl) (by kernel_rfl) (by kernel_rfl) ⟨law13_sameTexts_la0, trivial⟩ (by kernel_rfl) law13_sameTexts_eq
/-! downspout/downspoutref05.SameMsgs -/
def AL_ref05_SameMsgs_0 : Lp := ⟨⟨[(0, (.dat (.list tapi_Msg))), (1, (.dat (.list tapi_Msg))), (5, (.dat (.int .i64)))], []⟩, .ret, ⟨[(4, (.dat .bool))], []⟩, (.exit 0), ⟨[], []⟩⟩
def AS_ref05_SameMsgs : Shape := ⟨[(0, (.dat (.list tapi_Msg))), (1, (.dat (.list tapi_Msg)))], []⟩
def AZ_ref05_SameMsgs : Shape := ⟨[(0, (.dat .bool))], []⟩
def AE_ref05_SameMsgs : Ent := ⟨14, AS_ref05_SameMsgs, AZ_ref05_SameMsgs, ref05_SameMsgs⟩
def AF_ref05_SameMsgs : Fx := ⟨Acx, lookupG [], fun k st => bif Nat.beq k 0 then AL_ref05_SameMsgs_0.go ref05_SameMsgs_l0 0 st else .fail, fun _ => none, 0⟩
theorem ref05_SameMsgs_b0_eq (s : AL_ref05_SameMsgs_0.S.ty.den) : @Eq (Option (AL_ref05_SameMsgs_0.S.ty.den ⊕ AL_ref05_SameMsgs_0.Out)) (AL_ref05_SameMsgs_0.body AF_ref05_SameMsgs (loopAt (bodyOf Try.f14) 0) 0 s).val (ref05_SameMsgs_b0 s) := by kernel_rfl
theorem ref05_SameMsgs_eq (s : AS_ref05_SameMsgs.ty.den) : @Eq (Option AZ_ref05_SameMsgs.ty.den) (evFn AF_ref05_SameMsgs Try.f14 AS_ref05_SameMsgs AZ_ref05_SameMsgs s).val (ref05_SameMsgs s) := by kernel_rfl
theorem ref05_SameMsgs_hG : GSound Try.prog AF_ref05_SameMsgs.Γ := ents_sound trivial
theorem ref05_SameMsgs_la0 : LamOK Try.prog AF_ref05_SameMsgs Try.f14.ntmps 0 (loopAt (bodyOf Try.f14) 0) :=
  lam_sound Atab ref05_SameMsgs_hG Amixed (L := AL_ref05_SameMsgs_0) (f := ref05_SameMsgs_l0) (b := ref05_SameMsgs_b0) (m := []) (fun _ => rfl) (by kernel_rfl) (by kernel_rfl) trivial (by kernel_rfl) ref05_SameMsgs_b0_eq
theorem ref05_SameMsgs_ok : EntOK Try.prog AE_ref05_SameMsgs :=
  fun_sound (F := AF_ref05_SameMsgs) Atab ref05_SameMsgs_hG Amixed (fn := Try.f14) (m := [(0, loopAt (bodyOf Try.f14) 0)]) Try.func14 (by kernel_rfl) (by kernel_rfl) (by kernel_rfl) ⟨ref05_SameMsgs_la0, trivial⟩ (by kernel_rfl) ref05_SameMsgs_eq
/-! downspout/downspoutref04.Same -/
def AL_ref04_Same_0 : Lp := ⟨⟨[(0, (.dat (.list tapi_Pair))), (1, (.dat (.list tapi_Pair))), (5, (.dat (.int .i64)))], []⟩, .ret, ⟨[(4, (.dat .bool))], []⟩, (.exit 0), ⟨[], []⟩⟩
def AS_ref04_Same : Shape := ⟨[(0, (.dat (.list tapi_Pair))), (1, (.dat (.list tapi_Pair)))], []⟩
def AZ_ref04_Same : Shape := ⟨[(0, (.dat .bool))], []⟩
def AE_ref04_Same : Ent := ⟨9, AS_ref04_Same, AZ_ref04_Same, ref04_Same⟩
def AF_ref04_Same : Fx := ⟨Acx, lookupG [], fun k st => bif Nat.beq k 0 then AL_ref04_Same_0.go ref04_Same_l0 0 st else .fail, fun _ => none, 0⟩
theorem ref04_Same_b0_eq (s : AL_ref04_Same_0.S.ty.den) : @Eq (Option (AL_ref04_Same_0.S.ty.den ⊕ AL_ref04_Same_0.Out)) (AL_ref04_Same_0.body AF_ref04_Same (loopAt (bodyOf Try.f9) 0) 0 s).val (ref04_Same_b0 s) := by kernel_rfl
theorem ref04_Same_eq (s : AS_ref04_Same.ty.den) : @Eq (Option AZ_ref04_Same.ty.den) (evFn AF_ref04_Same Try.f9 AS_ref04_Same AZ_ref04_Same s).val (ref04_Same s) := by kernel_rfl
theorem ref04_Same_hG : GSound Try.prog AF_ref04_Same.Γ := ents_sound trivial
theorem ref04_Same_la0 : LamOK Try.prog AF_ref04_Same Try.f9.ntmps 0 (loopAt (bodyOf Try.f9) 0) :=
  lam_sound Atab ref04_Same_hG Amixed (L := AL_ref04_Same_0) (f := ref04_Same_l0) (b := ref04_Same_b0) (m := []) (fun _ => rfl) (by kernel_rfl) (by kernel_rfl) trivial (by kernel_rfl) ref04_Same_b0_eq
theorem ref04_Same_ok : EntOK Try.prog AE_ref04_Same :=
  fun_sound (F := AF_ref04_Same) Atab ref04_Same_hG Amixed (fn := Try.f9) (m := [(0, loopAt (bodyOf Try.f9) 0)]) Try.func9 (by kernel_rfl) (by kernel_rfl) (by kernel_rfl) ⟨ref04_Same_la0, trivial⟩ (by kernel_rfl) ref04_Same_eq
/-! downspout/downspoutref10.Same -/
def AL_ref10_Same_0 : Lp := ⟨⟨[(2, (.ptr 0 tapi_Node 0 [])), (3, (.ptr 1 tapi_Node 0 [])), (5, (.dat (.int .i64)))], [.box 43 tapi_Node (.dat tapi_Node), .box 43 tapi_Node (.dat tapi_Node)]⟩, .ret, ⟨[(4, (.dat .bool))], []⟩, (.exit 0), ⟨[(2, (.ptr 0 tapi_Node 0 [])), (3, (.ptr 1 tapi_Node 0 []))], [.box 43 tapi_Node (.dat tapi_Node), .box 43 tapi_Node (.dat tapi_Node)]⟩⟩
def AL_ref10_Same_1 : Lp := ⟨⟨[(2, (.ptr 0 tapi_Node 0 [])), (3, (.ptr 1 tapi_Node 0 [])), (6, (.dat (.int .i64)))], [.box 43 tapi_Node (.dat tapi_Node), .box 43 tapi_Node (.dat tapi_Node)]⟩, .ret, ⟨[(4, (.dat .bool))], []⟩, (.exit 2), ⟨[(2, (.ptr 0 tapi_Node 0 [])), (3, (.ptr 1 tapi_Node 0 []))], [.box 43 tapi_Node (.dat tapi_Node), .box 43 tapi_Node (.dat tapi_Node)]⟩⟩
def AL_ref10_Same_2 : Lp := ⟨⟨[(2, (.ptr 0 tapi_Node 0 [])), (3, (.ptr 1 tapi_Node 0 [])), (7, (.dat (.int .i64)))], [.box 43 tapi_Node (.dat tapi_Node), .box 43 tapi_Node (.dat tapi_Node)]⟩, .ret, ⟨[(4, (.dat .bool))], []⟩, (.exit 4), ⟨[], []⟩⟩
def AS_ref10_Same : Shape := ⟨[(0, (.dat tapi_Node)), (1, (.dat tapi_Node))], []⟩
def AZ_ref10_Same : Shape := ⟨[(0, (.dat .bool))], []⟩
def AE_ref10_Same : Ent := ⟨15, AS_ref10_Same, AZ_ref10_Same, ref10_Same⟩
def AF_ref10_Same : Fx := ⟨Acx, lookupG [AE_ref05_SameMsgs, AE_ref04_Same], fun k st => bif Nat.beq k 0 then AL_ref10_Same_0.go ref10_Same_l0 0 st else bif Nat.beq k 2 then AL_ref10_Same_1.go ref10_Same_l1 0 st else bif Nat.beq k 4 then AL_ref10_Same_2.go ref10_Same_l2 0 st else .fail, fun _ => none, 0⟩
theorem ref10_Same_b0_eq (s : AL_ref10_Same_0.S.ty.den) : @Eq (Option (AL_ref10_Same_0.S.ty.den ⊕ AL_ref10_Same_0.Out)) (AL_ref10_Same_0.body AF_ref10_Same (loopAt (bodyOf Try.f15) 0) 0 s).val (ref10_Same_b0 s) := by kernel_rfl
theorem ref10_Same_b1_eq (s : AL_ref10_Same_1.S.ty.den) : @Eq (Option (AL_ref10_Same_1.S.ty.den ⊕ AL_ref10_Same_1.Out)) (AL_ref10_Same_1.body AF_ref10_Same (loopAt (bodyOf Try.f15) 1) 2 s).val (ref10_Same_b1 s) := by kernel_rfl
theorem ref10_Same_b2_eq (s : AL_ref10_Same_2.S.ty.den) : @Eq (Option (AL_ref10_Same_2.S.ty.den ⊕ AL_ref10_Same_2.Out)) (AL_ref10_Same_2.body AF_ref10_Same (loopAt (bodyOf Try.f15) 2) 4 s).val (ref10_Same_b2 s) := by kernel_rfl
theorem ref10_Same_eq (s : AS_ref10_Same.ty.den) : @Eq (Option AZ_ref10_Same.ty.den) (evFn AF_ref10_Same Try.f15 AS_ref10_Same AZ_ref10_Same s).val (ref10_Same s) := by kernel_rfl
theorem ref10_Same_hG : GSound Try.prog AF_ref10_Same.Γ := ents_sound ⟨ref05_SameMsgs_ok, ref04_Same_ok, trivial⟩
theorem ref10_Same_la0 : LamOK Try.prog AF_ref10_Same Try.f15.ntmps 0 (loopAt (bodyOf Try.f15) 0) :=
  lam_sound Atab ref10_Same_hG Amixed (L := AL_ref10_Same_0) (f := ref10_Same_l0) (b := ref10_Same_b0) (m := []) (fun _ => rfl) (by kernel_rfl) (by kernel_rfl) trivial (by kernel_rfl) ref10_Same_b0_eq
theorem ref10_Same_la1 : LamOK Try.prog AF_ref10_Same Try.f15.ntmps 2 (loopAt (bodyOf Try.f15) 1) :=
  lam_sound Atab ref10_Same_hG Amixed (L := AL_ref10_Same_1) (f := ref10_Same_l1) (b := ref10_Same_b1) (m := []) (fun _ => rfl) (by kernel_rfl) (by kernel_rfl) trivial (by kernel_rfl) ref10_Same_b1_eq
theorem ref10_Same_la2 : LamOK Try.prog AF_ref10_Same Try.f15.ntmps 4 (loopAt (bodyOf Try.f15) 2) :=
  lam_sound Atab ref10_Same_hG Amixed (L := AL_ref10_Same_2) (f := ref10_Same_l2) (b := ref10_Same_b2) (m := []) (fun _ => rfl) (by kernel_rfl) (by kernel_rfl) trivial (by kernel_rfl) ref10_Same_b2_eq
theorem ref10_Same_ok : EntOK Try.prog AE_ref10_Same :=
  fun_sound (F := AF_ref10_Same) Atab ref10_Same_hG Amixed (fn := Try.f15) (m := [(0, loopAt (bodyOf Try.f15) 0), (2, loopAt (bodyOf Try.f15) 1), (4, loopAt (bodyOf Try.f15) 2)]) Try.func15 (by kernel_rfl) (by kernel_rfl) (by kernel_rfl) ⟨ref10_Same_la0, ref10_Same_la1, ref10_Same_la2, trivial⟩ (by kernel_rfl) ref10_Same_eq
/-! downspout/downspoutlaw13.same -/
def AL_law13_same_0 : Lp := ⟨⟨[(2, (.ptr 0 tref13_Split 0 [])), (3, (.ptr 1 tref13_Split 0 [])), (5, (.dat (.int .i64)))], [.box 38 tref13_Split (.dat tref13_Split), .box 38 tref13_Split (.dat tref13_Split)]⟩, .ret, ⟨[(4, (.dat .bool))], []⟩, (.exit 0), ⟨[], []⟩⟩
def AS_law13_same : Shape := ⟨[(0, (.dat tref13_Split)), (1, (.dat tref13_Split))], []⟩
def AZ_law13_same : Shape := ⟨[(0, (.dat .bool))], []⟩
def AE_law13_same : Ent := ⟨16, AS_law13_same, AZ_law13_same, law13_same⟩
def AF_law13_same : Fx := ⟨Acx, lookupG [AE_law13_sameTexts, AE_ref05_SameMsgs, AE_ref10_Same], fun k st => bif Nat.beq k 0 then AL_law13_same_0.go law13_same_l0 0 st else .fail, fun _ => none, 0⟩
theorem law13_same_b0_eq (s : AL_law13_same_0.S.ty.den) : @Eq (Option (AL_law13_same_0.S.ty.den ⊕ AL_law13_same_0.Out)) (AL_law13_same_0.body AF_law13_same (loopAt (bodyOf Try.f16) 0) 0 s).val (law13_same_b0 s) := by kernel_rfl
theorem law13_same_eq (s : AS_law13_same.ty.den) : @Eq (Option AZ_law13_same.ty.den) (evFn AF_law13_same Try.f16 AS_law13_same AZ_law13_same s).val (law13_same s) := by kernel_rfl
theorem law13_same_hG : GSound Try.prog AF_law13_same.Γ := ents_sound ⟨law13_sameTexts_ok, ref05_SameMsgs_ok, ref10_Same_ok, trivial⟩
theorem law13_same_la0 : LamOK Try.prog AF_law13_same Try.f16.ntmps 0 (loopAt (bodyOf Try.f16) 0) :=
  lam_sound Atab law13_same_hG Amixed (L := AL_law13_same_0) (f := law13_same_l0) (b := law13_same_b0) (m := []) (fun _ => rfl) (by kernel_rfl) (by kernel_rfl) trivial (by kernel_rfl) law13_same_b0_eq
theorem law13_same_ok : EntOK Try.prog AE_law13_same :=
  fun_sound (F := AF_law13_same) Atab law13_same_hG Amixed (fn := Try.f16) (m := [(0, loopAt (bodyOf Try.f16) 0)]) Try.func16 (by kernel_rfl) (by kernel_rfl) (by kernel_rfl) ⟨law13_same_la0, trivial⟩ (by kernel_rfl) law13_same_eq
/-! downspout/split.cut[int] -/
def AL_split_cut_int_0 : Lp := ⟨⟨[(0, (.dat (.list (.int .i64)))), (5, (.dat (.int .i64))), (6, (.own (.list (.int .i64)) 0)), (24, (.dat (.int .i64))), (25, (.dat (.int .i64)))], [.arr 40 (.list (.int .i64)) false]⟩, (.exit 0), ⟨[(6, (.own (.list (.int .i64)) 0))], [.arr 40 (.list (.int .i64)) false]⟩, .nrm, ⟨[], []⟩⟩
def AS_split_cut_int : Shape := ⟨[(0, (.dat (.list (.int .i64)))), (1, (.dat (.int .i64)))], []⟩
def AZ_split_cut_int : Shape := ⟨[(0, (.dat (.list (.list (.int .i64)))))], []⟩
def AE_split_cut_int : Ent := ⟨27, AS_split_cut_int, AZ_split_cut_int, split_cut_int⟩
def AF_split_cut_int : Fx := ⟨Acx, lookupG [], fun k st => bif Nat.beq k 0 then AL_split_cut_int_0.go split_cut_int_l0 0 st else .fail, fun _ => none, 0⟩
theorem split_cut_int_b0_eq (s : AL_split_cut_int_0.S.ty.den) : @Eq (Option (AL_split_cut_int_0.S.ty.den ⊕ AL_split_cut_int_0.Out)) (AL_split_cut_int_0.body AF_split_cut_int (loopAt (bodyOf Try.f27) 0) 0 s).val (split_cut_int_b0 s) := by kernel_rfl
theorem split_cut_int_eq (s : AS_split_cut_int.ty.den) : @Eq (Option AZ_split_cut_int.ty.den) (evFn AF_split_cut_int Try.f27 AS_split_cut_int AZ_split_cut_int s).val (split_cut_int s) := by kernel_rfl
theorem split_cut_int_hG : GSound Try.prog AF_split_cut_int.Γ := ents_sound trivial
theorem split_cut_int_la0 : LamOK Try.prog AF_split_cut_int Try.f27.ntmps 0 (loopAt (bodyOf Try.f27) 0) :=
  lam_sound Atab split_cut_int_hG Amixed (L := AL_split_cut_int_0) (f := split_cut_int_l0) (b := split_cut_int_b0) (m := []) (fun _ => rfl) (by kernel_rfl) (by kernel_rfl) trivial (by kernel_rfl) split_cut_int_b0_eq
theorem split_cut_int_ok : EntOK Try.prog AE_split_cut_int :=
  fun_sound (F := AF_split_cut_int) Atab split_cut_int_hG Amixed (fn := Try.f27) (m := [(0, loopAt (bodyOf Try.f27) 0)]) Try.func27 (by kernel_rfl) (by kernel_rfl) (by kernel_rfl) ⟨split_cut_int_la0, trivial⟩ (by kernel_rfl) split_cut_int_eq
/-! downspout/split.cut[downspout/api.Sum] -/
def AL_split_cut_api_Sum_0 : Lp := ⟨⟨[(0, (.dat (.list tapi_Sum))), (5, (.dat (.int .i64))), (6, (.own (.list tapi_Sum) 0)), (24, (.dat (.int .i64))), (25, (.dat (.int .i64)))], [.arr 41 (.list tapi_Sum) false]⟩, (.exit 0), ⟨[(6, (.own (.list tapi_Sum) 0))], [.arr 41 (.list tapi_Sum) false]⟩, .nrm, ⟨[], []⟩⟩
def AS_split_cut_api_Sum : Shape := ⟨[(0, (.dat (.list tapi_Sum))), (1, (.dat (.int .i64)))], []⟩
def AZ_split_cut_api_Sum : Shape := ⟨[(0, (.dat (.list (.list tapi_Sum))))], []⟩
def AE_split_cut_api_Sum : Ent := ⟨28, AS_split_cut_api_Sum, AZ_split_cut_api_Sum, split_cut_api_Sum⟩
def AF_split_cut_api_Sum : Fx := ⟨Acx, lookupG [], fun k st => bif Nat.beq k 0 then AL_split_cut_api_Sum_0.go split_cut_api_Sum_l0 0 st else .fail, fun _ => none, 0⟩
theorem split_cut_api_Sum_b0_eq (s : AL_split_cut_api_Sum_0.S.ty.den) : @Eq (Option (AL_split_cut_api_Sum_0.S.ty.den ⊕ AL_split_cut_api_Sum_0.Out)) (AL_split_cut_api_Sum_0.body AF_split_cut_api_Sum (loopAt (bodyOf Try.f28) 0) 0 s).val (split_cut_api_Sum_b0 s) := by kernel_rfl
theorem split_cut_api_Sum_eq (s : AS_split_cut_api_Sum.ty.den) : @Eq (Option AZ_split_cut_api_Sum.ty.den) (evFn AF_split_cut_api_Sum Try.f28 AS_split_cut_api_Sum AZ_split_cut_api_Sum s).val (split_cut_api_Sum s) := by kernel_rfl
theorem split_cut_api_Sum_hG : GSound Try.prog AF_split_cut_api_Sum.Γ := ents_sound trivial
theorem split_cut_api_Sum_la0 : LamOK Try.prog AF_split_cut_api_Sum Try.f28.ntmps 0 (loopAt (bodyOf Try.f28) 0) :=
  lam_sound Atab split_cut_api_Sum_hG Amixed (L := AL_split_cut_api_Sum_0) (f := split_cut_api_Sum_l0) (b := split_cut_api_Sum_b0) (m := []) (fun _ => rfl) (by kernel_rfl) (by kernel_rfl) trivial (by kernel_rfl) split_cut_api_Sum_b0_eq
theorem split_cut_api_Sum_ok : EntOK Try.prog AE_split_cut_api_Sum :=
  fun_sound (F := AF_split_cut_api_Sum) Atab split_cut_api_Sum_hG Amixed (fn := Try.f28) (m := [(0, loopAt (bodyOf Try.f28) 0)]) Try.func28 (by kernel_rfl) (by kernel_rfl) (by kernel_rfl) ⟨split_cut_api_Sum_la0, trivial⟩ (by kernel_rfl) split_cut_api_Sum_eq
/-! downspout/split.Inner -/
def AL_split_Inner_0 : Lp := ⟨⟨[(2, (.ptr 0 tapi_Node 0 [])), (7, (.dat (.list (.list (.int .i64))))), (8, (.dat (.list (.list tapi_Sum)))), (9, (.own tapi_Node 1)), (10, (.own .str 2)), (11, (.dat (.list .str))), (30, (.dat (.int .i64))), (31, (.dat (.int .i64)))], [.box 43 tapi_Node (.dat tapi_Node), .arr 43 tapi_Node false, .arr 9 .str false]⟩, (.exit 0), ⟨[(2, (.ptr 0 tapi_Node 0 [])), (9, (.own tapi_Node 1)), (10, (.own .str 2))], [.box 43 tapi_Node (.dat tapi_Node), .arr 43 tapi_Node false, .arr 9 .str false]⟩, .nrm, ⟨[], []⟩⟩
def AS_split_Inner : Shape := ⟨[(0, (.dat tapi_Node)), (1, (.dat tapi_Shape))], []⟩
def AZ_split_Inner : Shape := ⟨[(0, (.dat (.list tapi_Node))), (1, (.dat (.list .str))), (2, (.dat (.list tapi_Msg)))], []⟩
def AE_split_Inner : Ent := ⟨24, AS_split_Inner, AZ_split_Inner, split_Inner⟩
def AF_split_Inner : Fx := ⟨Acx, lookupG [AE_split_cut_int, AE_split_cut_api_Sum], fun k st => bif Nat.beq k 0 then AL_split_Inner_0.go split_Inner_l0 0 st else .fail, fun _ => none, 0⟩
theorem split_Inner_b0_eq (s : AL_split_Inner_0.S.ty.den) : @Eq (Option (AL_split_Inner_0.S.ty.den ⊕ AL_split_Inner_0.Out)) (AL_split_Inner_0.body AF_split_Inner (loopAt (bodyOf Try.f24) 0) 0 s).val (split_Inner_b0 s) := by kernel_rfl
theorem split_Inner_eq (s : AS_split_Inner.ty.den) : @Eq (Option AZ_split_Inner.ty.den) (evFn AF_split_Inner Try.f24 AS_split_Inner AZ_split_Inner s).val (split_Inner s) := by kernel_rfl
theorem split_Inner_hG : GSound Try.prog AF_split_Inner.Γ := ents_sound ⟨split_cut_int_ok, split_cut_api_Sum_ok, trivial⟩
theorem split_Inner_la0 : LamOK Try.prog AF_split_Inner Try.f24.ntmps 0 (loopAt (bodyOf Try.f24) 0) :=
  lam_sound Atab split_Inner_hG Amixed (L := AL_split_Inner_0) (f := split_Inner_l0) (b := split_Inner_b0) (m := []) (fun _ => rfl) (by kernel_rfl) (by kernel_rfl) trivial (by kernel_rfl) split_Inner_b0_eq
theorem split_Inner_ok : EntOK Try.prog AE_split_Inner :=
  fun_sound (F := AF_split_Inner) Atab split_Inner_hG Amixed (fn := Try.f24) (m := [(0, loopAt (bodyOf Try.f24) 0)]) Try.func24 (by kernel_rfl) (by kernel_rfl) (by kernel_rfl) ⟨split_Inner_la0, trivial⟩ (by kernel_rfl) split_Inner_eq
/-! downspout/downspoutlaw13.inner -/
def AS_law13_inner : Shape := ⟨[(0, (.dat tapi_Node)), (1, (.dat tapi_Shape))], []⟩
def AZ_law13_inner : Shape := ⟨[(0, (.dat tref13_Split))], []⟩
def AE_law13_inner : Ent := ⟨13, AS_law13_inner, AZ_law13_inner, law13_inner⟩
def AF_law13_inner : Fx := ⟨Acx, lookupG [AE_split_Inner], fun k st => .fail, fun _ => none, 0⟩
theorem law13_inner_eq (s : AS_law13_inner.ty.den) : @Eq (Option AZ_law13_inner.ty.den) (evFn AF_law13_inner Try.f13 AS_law13_inner AZ_law13_inner s).val (law13_inner s) := by kernel_rfl
theorem law13_inner_hG : GSound Try.prog AF_law13_inner.Γ := ents_sound ⟨split_Inner_ok, trivial⟩
theorem law13_inner_ok : EntOK Try.prog AE_law13_inner :=
  fun_sound (F := AF_law13_inner) Atab law13_inner_hG Amixed (fn := Try.f13) (m := []) Try.func13 (by kernel_rfl) (by kernel_rfl) (by kernel_rfl) trivial (by kernel_rfl) law13_inner_eq
/-! downspout/downspoutlaw13.sanity -/
def AL_law13_sanity_0 : Lp := ⟨⟨[(1, (.own tapi_Pair 0)), (2, (.dat (.int .i64)))], [.arr 45 tapi_Pair false]⟩, (.exit 0), ⟨[(1, (.own tapi_Pair 0))], [.arr 45 tapi_Pair false]⟩, .nrm, ⟨[], []⟩⟩
def AS_law13_sanity : Shape := ⟨[], []⟩
def AZ_law13_sanity : Shape := ⟨[(0, (.dat .bool))], []⟩
def AE_law13_sanity : Ent := ⟨6, AS_law13_sanity, AZ_law13_sanity, law13_sanity⟩
def AF_law13_sanity : Fx := ⟨Acx, lookupG [AE_split_Pieces, AE_law13_leaf, AE_law13_same, AE_law13_inner], fun k st => bif Nat.beq k 0 then AL_law13_sanity_0.go law13_sanity_l0 0 st else .fail, fun _ => none, 0⟩
theorem law13_sanity_b0_eq (s : AL_law13_sanity_0.S.ty.den) : @Eq (Option (AL_law13_sanity_0.S.ty.den ⊕ AL_law13_sanity_0.Out)) (AL_law13_sanity_0.body AF_law13_sanity (loopAt (bodyOf Try.f6) 0) 0 s).val (law13_sanity_b0 s) := by kernel_rfl
theorem law13_sanity_eq (s : AS_law13_sanity.ty.den) : @Eq (Option AZ_law13_sanity.ty.den) (evFn AF_law13_sanity Try.f6 AS_law13_sanity AZ_law13_sanity s).val (law13_sanity s) := by kernel_rfl
theorem law13_sanity_hG : GSound Try.prog AF_law13_sanity.Γ := ents_sound ⟨split_Pieces_ok, law13_leaf_ok, law13_same_ok, law13_inner_ok, trivial⟩
theorem law13_sanity_la0 : LamOK Try.prog AF_law13_sanity Try.f6.ntmps 0 (loopAt (bodyOf Try.f6) 0) :=
  lam_sound Atab law13_sanity_hG Amixed (L := AL_law13_sanity_0) (f := law13_sanity_l0) (b := law13_sanity_b0) (m := []) (fun _ => rfl) (by kernel_rfl) (by kernel_rfl) trivial (by kernel_rfl) law13_sanity_b0_eq
theorem law13_sanity_ok : EntOK Try.prog AE_law13_sanity :=
  fun_sound (F := AF_law13_sanity) Atab law13_sanity_hG Amixed (fn := Try.f6) (m := [(0, loopAt (bodyOf Try.f6) 0)]) Try.func6 (by kernel_rfl) (by kernel_rfl) (by kernel_rfl) ⟨law13_sanity_la0, trivial⟩ (by kernel_rfl) law13_sanity_eq
/-! downspout/downspoutref04.Key -/
def AS_ref04_Key : Shape := ⟨[(0, (.dat (.int .u8)))], []⟩
def AZ_ref04_Key : Shape := ⟨[(0, (.dat .str))], []⟩
def AE_ref04_Key : Ent := ⟨21, AS_ref04_Key, AZ_ref04_Key, ref04_Key⟩
def AF_ref04_Key : Fx := ⟨Acx, lookupG [], fun k st => .fail, fun _ => none, 0⟩
theorem ref04_Key_eq (s : AS_ref04_Key.ty.den) : @Eq (Option AZ_ref04_Key.ty.den) (evFn AF_ref04_Key Try.f21 AS_ref04_Key AZ_ref04_Key s).val (ref04_Key s) := by kernel_rfl
theorem ref04_Key_hG : GSound Try.prog AF_ref04_Key.Γ := ents_sound trivial
theorem ref04_Key_ok : EntOK Try.prog AE_ref04_Key :=
  fun_sound (F := AF_ref04_Key) Atab ref04_Key_hG Amixed (fn := Try.f21) (m := []) Try.func21 (by kernel_rfl) (by kernel_rfl) (by kernel_rfl) trivial (by kernel_rfl) ref04_Key_eq
/-! downspout/downspoutref04.Pair -/
def AS_ref04_Pair : Shape := ⟨[(0, (.dat (.pair (.int .u8) (.pair (.int .u8) (.pair (.int .u8) .unit)))))], []⟩
def AZ_ref04_Pair : Shape := ⟨[(0, (.dat tapi_Pair))], []⟩
def AE_ref04_Pair : Ent := ⟨18, AS_ref04_Pair, AZ_ref04_Pair, ref04_Pair⟩
def AF_ref04_Pair : Fx := ⟨Acx, lookupG [AE_ref04_Key], fun k st => .fail, fun _ => none, 0⟩
theorem ref04_Pair_eq (s : AS_ref04_Pair.ty.den) : @Eq (Option AZ_ref04_Pair.ty.den) (evFn AF_ref04_Pair Try.f18 AS_ref04_Pair AZ_ref04_Pair s).val (ref04_Pair s) := by kernel_rfl
theorem ref04_Pair_hG : GSound Try.prog AF_ref04_Pair.Γ := ents_sound ⟨ref04_Key_ok, trivial⟩
theorem ref04_Pair_ok : EntOK Try.prog AE_ref04_Pair :=
  fun_sound (F := AF_ref04_Pair) Atab ref04_Pair_hG Amixed (fn := Try.f18) (m := []) Try.func18 (by kernel_rfl) (by kernel_rfl) (by kernel_rfl) trivial (by kernel_rfl) ref04_Pair_eq
/-! downspout/downspoutref04.Put -/
def AL_ref04_Put_0 : Lp := ⟨⟨[(0, (.dat (.list tapi_Pair))), (3, (.ptr 0 tapi_Pair 0 [])), (5, (.own tapi_Pair 1)), (6, (.dat .bool)), (7, (.dat (.int .i64)))], [.box 45 tapi_Pair (.dat tapi_Pair), .arr 45 tapi_Pair false]⟩, (.exit 0), ⟨[(3, (.ptr 0 tapi_Pair 0 [])), (5, (.own tapi_Pair 1)), (6, (.dat .bool))], [.box 45 tapi_Pair (.dat tapi_Pair), .arr 45 tapi_Pair false]⟩, .nrm, ⟨[], []⟩⟩
def AS_ref04_Put : Shape := ⟨[(0, (.dat (.list tapi_Pair))), (1, (.dat tapi_Pair))], []⟩
def AZ_ref04_Put : Shape := ⟨[(0, (.dat (.list tapi_Pair)))], []⟩
def AE_ref04_Put : Ent := ⟨17, AS_ref04_Put, AZ_ref04_Put, ref04_Put⟩
def AF_ref04_Put : Fx := ⟨Acx, lookupG [], fun k st => bif Nat.beq k 0 then AL_ref04_Put_0.go ref04_Put_l0 0 st else .fail, fun _ => none, 0⟩
theorem ref04_Put_b0_eq (s : AL_ref04_Put_0.S.ty.den) : @Eq (Option (AL_ref04_Put_0.S.ty.den ⊕ AL_ref04_Put_0.Out)) (AL_ref04_Put_0.body AF_ref04_Put (loopAt (bodyOf Try.f17) 0) 0 s).val (ref04_Put_b0 s) := by kernel_rfl
theorem ref04_Put_eq (s : AS_ref04_Put.ty.den) : @Eq (Option AZ_ref04_Put.ty.den) (evFn AF_ref04_Put Try.f17 AS_ref04_Put AZ_ref04_Put s).val (ref04_Put s) := by kernel_rfl
theorem ref04_Put_hG : GSound Try.prog AF_ref04_Put.Γ := ents_sound trivial
theorem ref04_Put_la0 : LamOK Try.prog AF_ref04_Put Try.f17.ntmps 0 (loopAt (bodyOf Try.f17) 0) :=
  lam_sound Atab ref04_Put_hG Amixed (L := AL_ref04_Put_0) (f := ref04_Put_l0) (b := ref04_Put_b0) (m := []) (fun _ => rfl) (by kernel_rfl) (by kernel_rfl) trivial (by kernel_rfl) ref04_Put_b0_eq
theorem ref04_Put_ok : EntOK Try.prog AE_ref04_Put :=
  fun_sound (F := AF_ref04_Put) Atab ref04_Put_hG Amixed (fn := Try.f17) (m := [(0, loopAt (bodyOf Try.f17) 0)]) Try.func17 (by kernel_rfl) (by kernel_rfl) (by kernel_rfl) ⟨ref04_Put_la0, trivial⟩ (by kernel_rfl) ref04_Put_eq
/-! downspout/downspoutref04.Made -/
def AL_ref04_Made_0 : Lp := ⟨⟨[(0, (.dat (.list (.pair (.int .u8) (.pair (.int .u8) (.pair (.int .u8) .unit)))))), (3, (.dat (.list tapi_Pair))), (4, (.dat (.int .i64)))], []⟩, (.exit 0), ⟨[(3, (.dat (.list tapi_Pair)))], []⟩, .nrm, ⟨[], []⟩⟩
def AS_ref04_Made : Shape := ⟨[(0, (.dat (.list (.pair (.int .u8) (.pair (.int .u8) (.pair (.int .u8) .unit))))))], []⟩
def AZ_ref04_Made : Shape := ⟨[(0, (.dat (.list tapi_Pair)))], []⟩
def AE_ref04_Made : Ent := ⟨7, AS_ref04_Made, AZ_ref04_Made, ref04_Made⟩
def AF_ref04_Made : Fx := ⟨Acx, lookupG [AE_ref04_Pair, AE_ref04_Put], fun k st => bif Nat.beq k 0 then AL_ref04_Made_0.go ref04_Made_l0 0 st else .fail, fun _ => none, 0⟩
theorem ref04_Made_b0_eq (s : AL_ref04_Made_0.S.ty.den) : @Eq (Option (AL_ref04_Made_0.S.ty.den ⊕ AL_ref04_Made_0.Out)) (AL_ref04_Made_0.body AF_ref04_Made (loopAt (bodyOf Try.f7) 0) 0 s).val (ref04_Made_b0 s) := by kernel_rfl
theorem ref04_Made_eq (s : AS_ref04_Made.ty.den) : @Eq (Option AZ_ref04_Made.ty.den) (evFn AF_ref04_Made Try.f7 AS_ref04_Made AZ_ref04_Made s).val (ref04_Made s) := by kernel_rfl
theorem ref04_Made_hG : GSound Try.prog AF_ref04_Made.Γ := ents_sound ⟨ref04_Pair_ok, ref04_Put_ok, trivial⟩
theorem ref04_Made_la0 : LamOK Try.prog AF_ref04_Made Try.f7.ntmps 0 (loopAt (bodyOf Try.f7) 0) :=
  lam_sound Atab ref04_Made_hG Amixed (L := AL_ref04_Made_0) (f := ref04_Made_l0) (b := ref04_Made_b0) (m := []) (fun _ => rfl) (by kernel_rfl) (by kernel_rfl) trivial (by kernel_rfl) ref04_Made_b0_eq
theorem ref04_Made_ok : EntOK Try.prog AE_ref04_Made :=
  fun_sound (F := AF_ref04_Made) Atab ref04_Made_hG Amixed (fn := Try.f7) (m := [(0, loopAt (bodyOf Try.f7) 0)]) Try.func7 (by kernel_rfl) (by kernel_rfl) (by kernel_rfl) ⟨ref04_Made_la0, trivial⟩ (by kernel_rfl) ref04_Made_eq
/-! downspout/downspoutlaw13.SplitPieces -/
def AL_law13_SplitPieces_0 : Lp := ⟨⟨[(5, (.dat .bool)), (6, (.dat (.list tapi_Pair))), (7, (.dat (.int .i64))), (8, (.dat (.list (.list tapi_Pair)))), (9, (.own tapi_Pair 0)), (10, (.dat (.int .i64)))], [.arr 45 tapi_Pair false]⟩, .ret, ⟨[(4, (.dat .bool))], []⟩, (.exit 0), ⟨[(5, (.dat .bool)), (6, (.dat (.list tapi_Pair))), (9, (.own tapi_Pair 0))], [.arr 45 tapi_Pair false]⟩⟩
def AS_law13_SplitPieces : Shape := ⟨[(0, (.dat (.list (.pair (.int .u8) (.pair (.int .u8) (.pair (.int .u8) .unit)))))), (1, (.dat (.int .u8)))], []⟩
def AZ_law13_SplitPieces : Shape := ⟨[(0, (.dat .bool))], []⟩
def AE_law13_SplitPieces : Ent := ⟨3, AS_law13_SplitPieces, AZ_law13_SplitPieces, law13_SplitPieces⟩
def AF_law13_SplitPieces : Fx := ⟨Acx, lookupG [AE_split_Pieces, AE_ref04_Same, AE_law13_sanity, AE_ref04_Made], fun k st => bif Nat.beq k 0 then AL_law13_SplitPieces_0.go law13_SplitPieces_l0 0 st else .fail, fun _ => none, 0⟩
theorem law13_SplitPieces_b0_eq (s : AL_law13_SplitPieces_0.S.ty.den) : @Eq (Option (AL_law13_SplitPieces_0.S.ty.den ⊕ AL_law13_SplitPieces_0.Out)) (AL_law13_SplitPieces_0.body AF_law13_SplitPieces (loopAt (bodyOf Try.f3) 0) 0 s).val (law13_SplitPieces_b0 s) := by kernel_rfl
theorem law13_SplitPieces_eq (s : AS_law13_SplitPieces.ty.den) : @Eq (Option AZ_law13_SplitPieces.ty.den) (evFn AF_law13_SplitPieces Try.f3 AS_law13_SplitPieces AZ_law13_SplitPieces s).val (law13_SplitPieces s) := by kernel_rfl
theorem law13_SplitPieces_hG : GSound Try.prog AF_law13_SplitPieces.Γ := ents_sound ⟨split_Pieces_ok, ref04_Same_ok, law13_sanity_ok, ref04_Made_ok, trivial⟩
theorem law13_SplitPieces_la0 : LamOK Try.prog AF_law13_SplitPieces Try.f3.ntmps 0 (loopAt (bodyOf Try.f3) 0) :=
  lam_sound Atab law13_SplitPieces_hG Amixed (L := AL_law13_SplitPieces_0) (f := law13_SplitPieces_l0) (b := law13_SplitPieces_b0) (m := []) (fun _ => rfl) (by kernel_rfl) (by kernel_rfl) trivial (by kernel_rfl) law13_SplitPieces_b0_eq
theorem law13_SplitPieces_ok : EntOK Try.prog AE_law13_SplitPieces :=
  fun_sound (F := AF_law13_SplitPieces) Atab law13_SplitPieces_hG Amixed (fn := Try.f3) (m := [(0, loopAt (bodyOf Try.f3) 0)]) Try.func3 (by kernel_rfl) (by kernel_rfl) (by kernel_rfl) ⟨law13_SplitPieces_la0, trivial⟩ (by kernel_rfl) law13_SplitPieces_eq
/-! downspout/downspoutref13.Shape -/
def AS_ref13_Shape : Shape := ⟨[(0, (.dat (.pair (.int .u8) (.pair (.int .u8) (.pair (.int .u8) .unit)))))], []⟩
def AZ_ref13_Shape : Shape := ⟨[(0, (.dat tapi_Shape))], []⟩
def AE_ref13_Shape : Ent := ⟨10, AS_ref13_Shape, AZ_ref13_Shape, ref13_Shape⟩
def AF_ref13_Shape : Fx := ⟨Acx, lookupG [], fun k st => .fail, fun _ => none, 0⟩
theorem ref13_Shape_eq (s : AS_ref13_Shape.ty.den) : @Eq (Option AZ_ref13_Shape.ty.den) (evFn AF_ref13_Shape Try.f10 AS_ref13_Shape AZ_ref13_Shape s).val (ref13_Shape s) := by kernel_rfl
theorem ref13_Shape_hG : GSound Try.prog AF_ref13_Shape.Γ := ents_sound trivial
theorem ref13_Shape_ok : EntOK Try.prog AE_ref13_Shape :=
  fun_sound (F := AF_ref13_Shape) Atab ref13_Shape_hG Amixed (fn := Try.f10) (m := []) Try.func10 (by kernel_rfl) (by kernel_rfl) (by kernel_rfl) trivial (by kernel_rfl) ref13_Shape_eq
/-! downspout/downspoutlaw13.SplitLeaves -/
def AL_law13_SplitLeaves_1 : Lp := ⟨⟨[(5, (.dat .bool)), (6, (.dat (.list tapi_Pair))), (7, (.ptr 0 tapi_Shape 0 [])), (8, (.ptr 1 tref13_Split 0 [])), (9, (.own tapi_Pair 2)), (10, (.dat (.int .i64))), (11, (.dat (.int .i64)))], [.box 32 tapi_Shape (.dat tapi_Shape), .box 38 tref13_Split (.dat tref13_Split), .arr 45 tapi_Pair false]⟩, .ret, ⟨[(4, (.dat .bool))], []⟩, (.exit 2), ⟨[(5, (.dat .bool)), (6, (.dat (.list tapi_Pair))), (7, (.ptr 0 tapi_Shape 0 [])), (8, (.ptr 1 tref13_Split 0 [])), (9, (.own tapi_Pair 2)), (10, (.dat (.int .i64)))], [.box 32 tapi_Shape (.dat tapi_Shape), .box 38 tref13_Split (.dat tref13_Split), .arr 45 tapi_Pair false]⟩⟩
def AL_law13_SplitLeaves_0 : Lp := ⟨⟨[(5, (.dat .bool)), (6, (.dat (.list tapi_Pair))), (7, (.ptr 0 tapi_Shape 0 [])), (8, (.ptr 1 tref13_Split 0 [])), (9, (.own tapi_Pair 2)), (10, (.dat (.int .i64)))], [.box 32 tapi_Shape (.dat tapi_Shape), .box 38 tref13_Split (.dat tref13_Split), .arr 45 tapi_Pair false]⟩, .ret, ⟨[(4, (.dat .bool))], []⟩, (.exit 0), ⟨[(5, (.dat .bool)), (6, (.dat (.list tapi_Pair))), (8, (.ptr 0 tref13_Split 0 [])), (9, (.own tapi_Pair 1))], [.box 38 tref13_Split (.dat tref13_Split), .arr 45 tapi_Pair false]⟩⟩
def AL_law13_SplitLeaves_2 : Lp := ⟨⟨[(5, (.dat .bool)), (6, (.dat (.list tapi_Pair))), (8, (.ptr 0 tref13_Split 0 [])), (9, (.own tapi_Pair 1)), (13, (.dat (.int .i64)))], [.box 38 tref13_Split (.dat tref13_Split), .arr 45 tapi_Pair false]⟩, .ret, ⟨[(4, (.dat .bool))], []⟩, (.exit 4), ⟨[(5, (.dat .bool)), (6, (.dat (.list tapi_Pair))), (9, (.own tapi_Pair 0))], [.arr 45 tapi_Pair false]⟩⟩
def AS_law13_SplitLeaves : Shape := ⟨[(0, (.dat (.list (.pair (.int .u8) (.pair (.int .u8) (.pair (.int .u8) .unit)))))), (1, (.dat (.pair (.int .u8) (.pair (.int .u8) (.pair (.int .u8) .unit)))))], []⟩
def AZ_law13_SplitLeaves : Shape := ⟨[(0, (.dat .bool))], []⟩
def AE_law13_SplitLeaves : Ent := ⟨4, AS_law13_SplitLeaves, AZ_law13_SplitLeaves, law13_SplitLeaves⟩
def AF_law13_SplitLeaves : Fx := ⟨Acx, lookupG [AE_law13_leaf, AE_ref04_Same, AE_law13_sanity, AE_ref04_Made, AE_ref13_Shape], fun k st => bif Nat.beq k 2 then AL_law13_SplitLeaves_1.go law13_SplitLeaves_l1 0 st else bif Nat.beq k 0 then AL_law13_SplitLeaves_0.go law13_SplitLeaves_l0 0 st else bif Nat.beq k 4 then AL_law13_SplitLeaves_2.go law13_SplitLeaves_l2 0 st else .fail, fun _ => none, 0⟩
theorem law13_SplitLeaves_b1_eq (s : AL_law13_SplitLeaves_1.S.ty.den) : @Eq (Option (AL_law13_SplitLeaves_1.S.ty.den ⊕ AL_law13_SplitLeaves_1.Out)) (AL_law13_SplitLeaves_1.body AF_law13_SplitLeaves (loopAt (bodyOf Try.f4) 1) 2 s).val (law13_SplitLeaves_b1 s) := by kernel_rfl
theorem law13_SplitLeaves_b0_eq (s : AL_law13_SplitLeaves_0.S.ty.den) : @Eq (Option (AL_law13_SplitLeaves_0.S.ty.den ⊕ AL_law13_SplitLeaves_0.Out)) (AL_law13_SplitLeaves_0.body AF_law13_SplitLeaves (loopAt (bodyOf Try.f4) 0) 0 s).val (law13_SplitLeaves_b0 s) := by kernel_rfl
theorem law13_SplitLeaves_b2_eq (s : AL_law13_SplitLeaves_2.S.ty.den) : @Eq (Option (AL_law13_SplitLeaves_2.S.ty.den ⊕ AL_law13_SplitLeaves_2.Out)) (AL_law13_SplitLeaves_2.body AF_law13_SplitLeaves (loopAt (bodyOf Try.f4) 2) 4 s).val (law13_SplitLeaves_b2 s) := by kernel_rfl
theorem law13_SplitLeaves_eq (s : AS_law13_SplitLeaves.ty.den) : @Eq (Option AZ_law13_SplitLeaves.ty.den) (evFn AF_law13_SplitLeaves Try.f4 AS_law13_SplitLeaves AZ_law13_SplitLeaves s).val (law13_SplitLeaves s) := by kernel_rfl
theorem law13_SplitLeaves_hG : GSound Try.prog AF_law13_SplitLeaves.Γ := ents_sound ⟨law13_leaf_ok, ref04_Same_ok, law13_sanity_ok, ref04_Made_ok, ref13_Shape_ok, trivial⟩
theorem law13_SplitLeaves_la1 : LamOK Try.prog AF_law13_SplitLeaves Try.f4.ntmps 2 (loopAt (bodyOf Try.f4) 1) :=
  lam_sound Atab law13_SplitLeaves_hG Amixed (L := AL_law13_SplitLeaves_1) (f := law13_SplitLeaves_l1) (b := law13_SplitLeaves_b1) (m := []) (fun _ => rfl) (by kernel_rfl) (by kernel_rfl) trivial (by kernel_rfl) law13_SplitLeaves_b1_eq
theorem law13_SplitLeaves_la0 : LamOK Try.prog AF_law13_SplitLeaves Try.f4.ntmps 0 (loopAt (bodyOf Try.f4) 0) :=
  lam_sound Atab law13_SplitLeaves_hG Amixed (L := AL_law13_SplitLeaves_0) (f := law13_SplitLeaves_l0) (b := law13_SplitLeaves_b0) (m := [(2, loopAt (bodyOf Try.f4) 1)]) (fun _ => rfl) (by kernel_rfl) (by kernel_rfl) ⟨law13_SplitLeaves_la1, trivial⟩ (by kernel_rfl) law13_SplitLeaves_b0_eq
theorem law13_SplitLeaves_la2 : LamOK Try.prog AF_law13_SplitLeaves Try.f4.ntmps 4 (loopAt (bodyOf Try.f4) 2) :=
  lam_sound Atab law13_SplitLeaves_hG Amixed (L := AL_law13_SplitLeaves_2) (f := law13_SplitLeaves_l2) (b := law13_SplitLeaves_b2) (m := []) (fun _ => rfl) (by kernel_rfl) (by kernel_rfl) trivial (by kernel_rfl) law13_SplitLeaves_b2_eq
theorem law13_SplitLeaves_ok : EntOK Try.prog AE_law13_SplitLeaves :=
  fun_sound (F := AF_law13_SplitLeaves) Atab law13_SplitLeaves_hG Amixed (fn := Try.f4) (m := [(0, loopAt (bodyOf Try.f4) 0), (2, loopAt (bodyOf Try.f4) 1), (4, loopAt (bodyOf Try.f4) 2)]) Try.func4 (by kernel_rfl) (by kernel_rfl) (by kernel_rfl) ⟨law13_SplitLeaves_la0, law13_SplitLeaves_la1, law13_SplitLeaves_la2, trivial⟩ (by kernel_rfl) law13_SplitLeaves_eq
/-! downspout/downspoutref02.Pivots -/
def AL_ref02_Pivots_1 : Lp := ⟨⟨[(0, (.dat (.list .str))), (3, (.own .str 0)), (4, (.dat (.int .i64))), (5, (.own .str 1)), (6, (.dat .bool)), (7, (.dat (.int .i64)))], [.arr 9 .str false, .arr 9 .str false]⟩, (.exit 2), ⟨[(0, (.dat (.list .str))), (4, (.dat (.int .i64))), (5, (.own .str 0)), (6, (.dat .bool))], [.arr 9 .str false]⟩, .nrm, ⟨[], []⟩⟩
def AL_ref02_Pivots_0 : Lp := ⟨⟨[(0, (.dat (.list .str))), (3, (.own .str 0)), (4, (.dat (.int .i64)))], [.arr 9 .str false]⟩, (.exit 0), ⟨[(3, (.own .str 0))], [.arr 9 .str false]⟩, .nrm, ⟨[], []⟩⟩
def AS_ref02_Pivots : Shape := ⟨[(0, (.dat (.list .str)))], []⟩
def AZ_ref02_Pivots : Shape := ⟨[(0, (.dat (.list .str)))], []⟩
def AE_ref02_Pivots : Ent := ⟨22, AS_ref02_Pivots, AZ_ref02_Pivots, ref02_Pivots⟩
def AF_ref02_Pivots : Fx := ⟨Acx, lookupG [], fun k st => bif Nat.beq k 2 then AL_ref02_Pivots_1.go ref02_Pivots_l1 0 st else bif Nat.beq k 0 then AL_ref02_Pivots_0.go ref02_Pivots_l0 0 st else .fail, fun _ => none, 0⟩
theorem ref02_Pivots_b1_eq (s : AL_ref02_Pivots_1.S.ty.den) : @Eq (Option (AL_ref02_Pivots_1.S.ty.den ⊕ AL_ref02_Pivots_1.Out)) (AL_ref02_Pivots_1.body AF_ref02_Pivots (loopAt (bodyOf Try.f22) 1) 2 s).val (ref02_Pivots_b1 s) := by kernel_rfl
theorem ref02_Pivots_b0_eq (s : AL_ref02_Pivots_0.S.ty.den) : @Eq (Option (AL_ref02_Pivots_0.S.ty.den ⊕ AL_ref02_Pivots_0.Out)) (AL_ref02_Pivots_0.body AF_ref02_Pivots (loopAt (bodyOf Try.f22) 0) 0 s).val (ref02_Pivots_b0 s) := by kernel_rfl
theorem ref02_Pivots_eq (s : AS_ref02_Pivots.ty.den) : @Eq (Option AZ_ref02_Pivots.ty.den) (evFn AF_ref02_Pivots Try.f22 AS_ref02_Pivots AZ_ref02_Pivots s).val (ref02_Pivots s) := by kernel_rfl
theorem ref02_Pivots_hG : GSound Try.prog AF_ref02_Pivots.Γ := ents_sound trivial
theorem ref02_Pivots_la1 : LamOK Try.prog AF_ref02_Pivots Try.f22.ntmps 2 (loopAt (bodyOf Try.f22) 1) :=
  lam_sound Atab ref02_Pivots_hG Amixed (L := AL_ref02_Pivots_1) (f := ref02_Pivots_l1) (b := ref02_Pivots_b1) (m := []) (fun _ => rfl) (by kernel_rfl) (by kernel_rfl) trivial (by kernel_rfl) ref02_Pivots_b1_eq
theorem ref02_Pivots_la0 : LamOK Try.prog AF_ref02_Pivots Try.f22.ntmps 0 (loopAt (bodyOf Try.f22) 0) :=
  lam_sound Atab ref02_Pivots_hG Amixed (L := AL_ref02_Pivots_0) (f := ref02_Pivots_l0) (b := ref02_Pivots_b0) (m := [(2, loopAt (bodyOf Try.f22) 1)]) (fun _ => rfl) (by kernel_rfl) (by kernel_rfl) ⟨ref02_Pivots_la1, trivial⟩ (by kernel_rfl) ref02_Pivots_b0_eq
theorem ref02_Pivots_ok : EntOK Try.prog AE_ref02_Pivots :=
  fun_sound (F := AF_ref02_Pivots) Atab ref02_Pivots_hG Amixed (fn := Try.f22) (m := [(0, loopAt (bodyOf Try.f22) 0), (2, loopAt (bodyOf Try.f22) 1)]) Try.func22 (by kernel_rfl) (by kernel_rfl) (by kernel_rfl) ⟨ref02_Pivots_la0, ref02_Pivots_la1, trivial⟩ (by kernel_rfl) ref02_Pivots_eq
/-! downspout/downspoutref05.Path -/
def AS_ref05_Path : Shape := ⟨[(0, (.dat (.int .u8)))], []⟩
def AZ_ref05_Path : Shape := ⟨[(0, (.dat .str))], []⟩
def AE_ref05_Path : Ent := ⟨31, AS_ref05_Path, AZ_ref05_Path, ref05_Path⟩
def AF_ref05_Path : Fx := ⟨Acx, lookupG [], fun k st => .fail, fun _ => none, 0⟩
theorem ref05_Path_eq (s : AS_ref05_Path.ty.den) : @Eq (Option AZ_ref05_Path.ty.den) (evFn AF_ref05_Path Try.f31 AS_ref05_Path AZ_ref05_Path s).val (ref05_Path s) := by kernel_rfl
theorem ref05_Path_hG : GSound Try.prog AF_ref05_Path.Γ := ents_sound trivial
theorem ref05_Path_ok : EntOK Try.prog AE_ref05_Path :=
  fun_sound (F := AF_ref05_Path) Atab ref05_Path_hG Amixed (fn := Try.f31) (m := []) Try.func31 (by kernel_rfl) (by kernel_rfl) (by kernel_rfl) trivial (by kernel_rfl) ref05_Path_eq
/-! downspout/downspoutref05.Key -/
def AS_ref05_Key : Shape := ⟨[(0, (.dat (.int .u8)))], []⟩
def AZ_ref05_Key : Shape := ⟨[(0, (.dat .str))], []⟩
def AE_ref05_Key : Ent := ⟨29, AS_ref05_Key, AZ_ref05_Key, ref05_Key⟩
def AF_ref05_Key : Fx := ⟨Acx, lookupG [AE_ref05_Path], fun k st => .fail, fun _ => none, 0⟩
theorem ref05_Key_eq (s : AS_ref05_Key.ty.den) : @Eq (Option AZ_ref05_Key.ty.den) (evFn AF_ref05_Key Try.f29 AS_ref05_Key AZ_ref05_Key s).val (ref05_Key s) := by kernel_rfl
theorem ref05_Key_hG : GSound Try.prog AF_ref05_Key.Γ := ents_sound ⟨ref05_Path_ok, trivial⟩
theorem ref05_Key_ok : EntOK Try.prog AE_ref05_Key :=
  fun_sound (F := AF_ref05_Key) Atab ref05_Key_hG Amixed (fn := Try.f29) (m := []) Try.func29 (by kernel_rfl) (by kernel_rfl) (by kernel_rfl) trivial (by kernel_rfl) ref05_Key_eq
/-! downspout/downspoutref02.Prefix -/
def AL_ref02_Prefix_0 : Lp := ⟨⟨[(0, (.dat .str)), (2, (.ptr 0 tapi_Span 0 [])), (3, (.dat (.int .i64)))], [.box 57 tapi_Span (.agg [(.dat .str), (.dat .str)])]⟩, (.exit 0), ⟨[(0, (.dat .str)), (2, (.ptr 0 tapi_Span 0 [])), (3, (.dat (.int .i64)))], [.box 57 tapi_Span (.agg [(.dat .str), (.dat .str)])]⟩, .nrm, ⟨[], []⟩⟩
def AS_ref02_Prefix : Shape := ⟨[(0, (.dat .str))], []⟩
def AZ_ref02_Prefix : Shape := ⟨[(0, (.dat tapi_Span))], []⟩
def AE_ref02_Prefix : Ent := ⟨30, AS_ref02_Prefix, AZ_ref02_Prefix, ref02_Prefix⟩
def AF_ref02_Prefix : Fx := ⟨Acx, lookupG [], fun k st => bif Nat.beq k 0 then AL_ref02_Prefix_0.go ref02_Prefix_l0 0 st else .fail, fun _ => none, 0⟩
theorem ref02_Prefix_b0_eq (s : AL_ref02_Prefix_0.S.ty.den) : @Eq (Option (AL_ref02_Prefix_0.S.ty.den ⊕ AL_ref02_Prefix_0.Out)) (AL_ref02_Prefix_0.body AF_ref02_Prefix (loopAt (bodyOf Try.f30) 0) 0 s).val (ref02_Prefix_b0 s) := by kernel_rfl
theorem ref02_Prefix_eq (s : AS_ref02_Prefix.ty.den) : @Eq (Option AZ_ref02_Prefix.ty.den) (evFn AF_ref02_Prefix Try.f30 AS_ref02_Prefix AZ_ref02_Prefix s).val (ref02_Prefix s) := by kernel_rfl
theorem ref02_Prefix_hG : GSound Try.prog AF_ref02_Prefix.Γ := ents_sound trivial
theorem ref02_Prefix_la0 : LamOK Try.prog AF_ref02_Prefix Try.f30.ntmps 0 (loopAt (bodyOf Try.f30) 0) :=
  lam_sound Atab ref02_Prefix_hG Amixed (L := AL_ref02_Prefix_0) (f := ref02_Prefix_l0) (b := ref02_Prefix_b0) (m := []) (fun _ => rfl) (by kernel_rfl) (by kernel_rfl) trivial (by kernel_rfl) ref02_Prefix_b0_eq
theorem ref02_Prefix_ok : EntOK Try.prog AE_ref02_Prefix :=
  fun_sound (F := AF_ref02_Prefix) Atab ref02_Prefix_hG Amixed (fn := Try.f30) (m := [(0, loopAt (bodyOf Try.f30) 0)]) Try.func30 (by kernel_rfl) (by kernel_rfl) (by kernel_rfl) ⟨ref02_Prefix_la0, trivial⟩ (by kernel_rfl) ref02_Prefix_eq
/-! downspout/downspoutref02.Begins -/
def AS_ref02_Begins : Shape := ⟨[(0, (.dat .str)), (1, (.dat .str))], []⟩
def AZ_ref02_Begins : Shape := ⟨[(0, (.dat .bool))], []⟩
def AE_ref02_Begins : Ent := ⟨33, AS_ref02_Begins, AZ_ref02_Begins, ref02_Begins⟩
def AF_ref02_Begins : Fx := ⟨Acx, lookupG [], fun k st => .fail, fun _ => none, 0⟩
theorem ref02_Begins_eq (s : AS_ref02_Begins.ty.den) : @Eq (Option AZ_ref02_Begins.ty.den) (evFn AF_ref02_Begins Try.f33 AS_ref02_Begins AZ_ref02_Begins s).val (ref02_Begins s) := by kernel_rfl
theorem ref02_Begins_hG : GSound Try.prog AF_ref02_Begins.Γ := ents_sound trivial
theorem ref02_Begins_ok : EntOK Try.prog AE_ref02_Begins :=
  fun_sound (F := AF_ref02_Begins) Atab ref02_Begins_hG Amixed (fn := Try.f33) (m := []) Try.func33 (by kernel_rfl) (by kernel_rfl) (by kernel_rfl) trivial (by kernel_rfl) ref02_Begins_eq
/-! downspout/downspoutref05.Value -/
def AS_ref05_Value : Shape := ⟨[(0, (.dat (.int .u8)))], []⟩
def AZ_ref05_Value : Shape := ⟨[(0, (.dat .str))], []⟩
def AE_ref05_Value : Ent := ⟨34, AS_ref05_Value, AZ_ref05_Value, ref05_Value⟩
def AF_ref05_Value : Fx := ⟨Acx, lookupG [], fun k st => .fail, fun _ => none, 0⟩
theorem ref05_Value_eq (s : AS_ref05_Value.ty.den) : @Eq (Option AZ_ref05_Value.ty.den) (evFn AF_ref05_Value Try.f34 AS_ref05_Value AZ_ref05_Value s).val (ref05_Value s) := by kernel_rfl
theorem ref05_Value_hG : GSound Try.prog AF_ref05_Value.Γ := ents_sound trivial
theorem ref05_Value_ok : EntOK Try.prog AE_ref05_Value :=
  fun_sound (F := AF_ref05_Value) Atab ref05_Value_hG Amixed (fn := Try.f34) (m := []) Try.func34 (by kernel_rfl) (by kernel_rfl) (by kernel_rfl) trivial (by kernel_rfl) ref05_Value_eq
/-! downspout/downspoutref02.One -/
def AS_ref02_One : Shape := ⟨[(0, (.dat .str))], []⟩
def AZ_ref02_One : Shape := ⟨[(0, (.dat tapi_Span))], []⟩
def AE_ref02_One : Ent := ⟨32, AS_ref02_One, AZ_ref02_One, ref02_One⟩
def AF_ref02_One : Fx := ⟨Acx, lookupG [], fun k st => .fail, fun _ => none, 0⟩
theorem ref02_One_eq (s : AS_ref02_One.ty.den) : @Eq (Option AZ_ref02_One.ty.den) (evFn AF_ref02_One Try.f32 AS_ref02_One AZ_ref02_One s).val (ref02_One s) := by kernel_rfl
theorem ref02_One_hG : GSound Try.prog AF_ref02_One.Γ := ents_sound trivial
theorem ref02_One_ok : EntOK Try.prog AE_ref02_One :=
  fun_sound (F := AF_ref02_One) Atab ref02_One_hG Amixed (fn := Try.f32) (m := []) Try.func32 (by kernel_rfl) (by kernel_rfl) (by kernel_rfl) trivial (by kernel_rfl) ref02_One_eq
/-! downspout/downspoutref05.Made -/
def AS_ref05_Made : Shape := ⟨[(0, (.dat (.pair (.int .u8) (.pair (.int .u8) (.pair (.int .u8) (.pair (.int .u8) (.pair (.int .u8) (.pair (.int .u8) .unit))))))))], []⟩
def AZ_ref05_Made : Shape := ⟨[(0, (.dat tapi_Msg))], []⟩
def AE_ref05_Made : Ent := ⟨26, AS_ref05_Made, AZ_ref05_Made, ref05_Made⟩
def AF_ref05_Made : Fx := ⟨Acx, lookupG [AE_ref05_Path, AE_ref05_Key, AE_ref02_Prefix, AE_ref02_Begins, AE_ref05_Value, AE_ref02_One], fun k st => .fail, fun _ => none, 0⟩
theorem ref05_Made_eq (s : AS_ref05_Made.ty.den) : @Eq (Option AZ_ref05_Made.ty.den) (evFn AF_ref05_Made Try.f26 AS_ref05_Made AZ_ref05_Made s).val (ref05_Made s) := by kernel_rfl
theorem ref05_Made_hG : GSound Try.prog AF_ref05_Made.Γ := ents_sound ⟨ref05_Path_ok, ref05_Key_ok, ref02_Prefix_ok, ref02_Begins_ok, ref05_Value_ok, ref02_One_ok, trivial⟩
theorem ref05_Made_ok : EntOK Try.prog AE_ref05_Made :=
  fun_sound (F := AF_ref05_Made) Atab ref05_Made_hG Amixed (fn := Try.f26) (m := []) Try.func26 (by kernel_rfl) (by kernel_rfl) (by kernel_rfl) trivial (by kernel_rfl) ref05_Made_eq
/-! downspout/downspoutref05.List -/
def AL_ref05_List_0 : Lp := ⟨⟨[(0, (.dat (.list (.pair (.int .u8) (.pair (.int .u8) (.pair (.int .u8) (.pair (.int .u8) (.pair (.int .u8) (.pair (.int .u8) .unit))))))))), (1, (.dat (.int .i64))), (5, (.own tapi_Msg 0)), (6, (.dat (.int .i64)))], [.arr 59 tapi_Msg false]⟩, (.exit 0), ⟨[(5, (.own tapi_Msg 0))], [.arr 59 tapi_Msg false]⟩, .nrm, ⟨[], []⟩⟩
def AS_ref05_List : Shape := ⟨[(0, (.dat (.list (.pair (.int .u8) (.pair (.int .u8) (.pair (.int .u8) (.pair (.int .u8) (.pair (.int .u8) (.pair (.int .u8) .unit))))))))), (1, (.dat (.int .i64)))], []⟩
def AZ_ref05_List : Shape := ⟨[(0, (.dat (.list tapi_Msg)))], []⟩
def AE_ref05_List : Ent := ⟨23, AS_ref05_List, AZ_ref05_List, ref05_List⟩
def AF_ref05_List : Fx := ⟨Acx, lookupG [AE_ref05_Made], fun k st => bif Nat.beq k 0 then AL_ref05_List_0.go ref05_List_l0 0 st else .fail, fun _ => none, 0⟩
theorem ref05_List_b0_eq (s : AL_ref05_List_0.S.ty.den) : @Eq (Option (AL_ref05_List_0.S.ty.den ⊕ AL_ref05_List_0.Out)) (AL_ref05_List_0.body AF_ref05_List (loopAt (bodyOf Try.f23) 0) 0 s).val (ref05_List_b0 s) := by kernel_rfl
theorem ref05_List_eq (s : AS_ref05_List.ty.den) : @Eq (Option AZ_ref05_List.ty.den) (evFn AF_ref05_List Try.f23 AS_ref05_List AZ_ref05_List s).val (ref05_List s) := by kernel_rfl
theorem ref05_List_hG : GSound Try.prog AF_ref05_List.Γ := ents_sound ⟨ref05_Made_ok, trivial⟩
theorem ref05_List_la0 : LamOK Try.prog AF_ref05_List Try.f23.ntmps 0 (loopAt (bodyOf Try.f23) 0) :=
  lam_sound Atab ref05_List_hG Amixed (L := AL_ref05_List_0) (f := ref05_List_l0) (b := ref05_List_b0) (m := []) (fun _ => rfl) (by kernel_rfl) (by kernel_rfl) trivial (by kernel_rfl) ref05_List_b0_eq
theorem ref05_List_ok : EntOK Try.prog AE_ref05_List :=
  fun_sound (F := AF_ref05_List) Atab ref05_List_hG Amixed (fn := Try.f23) (m := [(0, loopAt (bodyOf Try.f23) 0)]) Try.func23 (by kernel_rfl) (by kernel_rfl) (by kernel_rfl) ⟨ref05_List_la0, trivial⟩ (by kernel_rfl) ref05_List_eq
/-! downspout/downspoutref10.Made -/
def AL_ref10_Made_0 : Lp := ⟨⟨[(1, (.ptr 0 tref10_Raw 0 [])), (2, (.ptr 1 tapi_Node 0 [])), (3, (.own .str 2)), (4, (.dat (.int .i64)))], [.box 51 tref10_Raw (.dat tref10_Raw), .box 43 tapi_Node (.agg [(.dat (.list tapi_Pair)), (.dat (.list .str)), (.dat (.list (.int .i64))), (.dat (.list tapi_Sum)), (.dat (.list tapi_Msg))]), .arr 9 .str false]⟩, (.exit 0), ⟨[(1, (.ptr 0 tref10_Raw 0 [])), (2, (.ptr 1 tapi_Node 0 [])), (3, (.own .str 2))], [.box 51 tref10_Raw (.dat tref10_Raw), .box 43 tapi_Node (.agg [(.dat (.list tapi_Pair)), (.dat (.list .str)), (.dat (.list (.int .i64))), (.dat (.list tapi_Sum)), (.dat (.list tapi_Msg))]), .arr 9 .str false]⟩, .nrm, ⟨[], []⟩⟩
def AL_ref10_Made_1 : Lp := ⟨⟨[(1, (.ptr 0 tref10_Raw 0 [])), (2, (.ptr 1 tapi_Node 0 [])), (5, (.ptr 2 tapi_Node 0 [])), (6, (.dat (.int .i64)))], [.box 51 tref10_Raw (.dat tref10_Raw), .box 43 tapi_Node (.agg [(.dat (.list tapi_Pair)), (.dat (.list .str)), (.dat (.list (.int .i64))), (.dat (.list tapi_Sum)), (.dat (.list tapi_Msg))]), .box 43 tapi_Node (.agg [(.dat (.list tapi_Pair)), (.dat (.list .str)), (.own (.int .i64) 3), (.own tapi_Sum 4), (.dat (.list tapi_Msg))]), .arr 3 (.int .i64) false, .arr 72 tapi_Sum false]⟩, (.exit 2), ⟨[(2, (.ptr 0 tapi_Node 0 [])), (5, (.ptr 1 tapi_Node 0 []))], [.box 43 tapi_Node (.agg [(.dat (.list tapi_Pair)), (.dat (.list .str)), (.dat (.list (.int .i64))), (.dat (.list tapi_Sum)), (.dat (.list tapi_Msg))]), .box 43 tapi_Node (.agg [(.dat (.list tapi_Pair)), (.dat (.list .str)), (.own (.int .i64) 2), (.own tapi_Sum 3), (.dat (.list tapi_Msg))]), .arr 3 (.int .i64) false, .arr 72 tapi_Sum false]⟩, .nrm, ⟨[], []⟩⟩
def AS_ref10_Made : Shape := ⟨[(0, (.dat tref10_Raw))], []⟩
def AZ_ref10_Made : Shape := ⟨[(0, (.dat tapi_Node))], []⟩
def AE_ref10_Made : Ent := ⟨12, AS_ref10_Made, AZ_ref10_Made, ref10_Made⟩
def AF_ref10_Made : Fx := ⟨Acx, lookupG [AE_ref04_Key, AE_ref04_Made, AE_ref02_Pivots, AE_ref05_List], fun k st => bif Nat.beq k 0 then AL_ref10_Made_0.go ref10_Made_l0 0 st else bif Nat.beq k 2 then AL_ref10_Made_1.go ref10_Made_l1 0 st else .fail, fun _ => none, 0⟩
theorem ref10_Made_b0_eq (s : AL_ref10_Made_0.S.ty.den) : @Eq (Option (AL_ref10_Made_0.S.ty.den ⊕ AL_ref10_Made_0.Out)) (AL_ref10_Made_0.body AF_ref10_Made (loopAt (bodyOf Try.f12) 0) 0 s).val (ref10_Made_b0 s) := by kernel_rfl
theorem ref10_Made_b1_eq (s : AL_ref10_Made_1.S.ty.den) : @Eq (Option (AL_ref10_Made_1.S.ty.den ⊕ AL_ref10_Made_1.Out)) (AL_ref10_Made_1.body AF_ref10_Made (loopAt (bodyOf Try.f12) 1) 2 s).val (ref10_Made_b1 s) := by kernel_rfl
theorem ref10_Made_eq (s : AS_ref10_Made.ty.den) : @Eq (Option AZ_ref10_Made.ty.den) (evFn AF_ref10_Made Try.f12 AS_ref10_Made AZ_ref10_Made s).val (ref10_Made s) := by kernel_rfl
theorem ref10_Made_hG : GSound Try.prog AF_ref10_Made.Γ := ents_sound ⟨ref04_Key_ok, ref04_Made_ok, ref02_Pivots_ok, ref05_List_ok, trivial⟩
theorem ref10_Made_la0 : LamOK Try.prog AF_ref10_Made Try.f12.ntmps 0 (loopAt (bodyOf Try.f12) 0) :=
  lam_sound Atab ref10_Made_hG Amixed (L := AL_ref10_Made_0) (f := ref10_Made_l0) (b := ref10_Made_b0) (m := []) (fun _ => rfl) (by kernel_rfl) (by kernel_rfl) trivial (by kernel_rfl) ref10_Made_b0_eq
theorem ref10_Made_la1 : LamOK Try.prog AF_ref10_Made Try.f12.ntmps 2 (loopAt (bodyOf Try.f12) 1) :=
  lam_sound Atab ref10_Made_hG Amixed (L := AL_ref10_Made_1) (f := ref10_Made_l1) (b := ref10_Made_b1) (m := []) (fun _ => rfl) (by kernel_rfl) (by kernel_rfl) trivial (by kernel_rfl) ref10_Made_b1_eq
theorem ref10_Made_ok : EntOK Try.prog AE_ref10_Made :=
  fun_sound (F := AF_ref10_Made) Atab ref10_Made_hG Amixed (fn := Try.f12) (m := [(0, loopAt (bodyOf Try.f12) 0), (2, loopAt (bodyOf Try.f12) 1)]) Try.func12 (by kernel_rfl) (by kernel_rfl) (by kernel_rfl) ⟨ref10_Made_la0, ref10_Made_la1, trivial⟩ (by kernel_rfl) ref10_Made_eq
/-! downspout/downspoutlaw13.SplitKids -/
def AL_law13_SplitKids_0 : Lp := ⟨⟨[(5, (.dat .bool)), (6, (.ptr 0 tapi_Node 0 [])), (7, (.ptr 1 tapi_Shape 0 [])), (8, (.ptr 2 tref13_Split 0 [])), (9, (.ptr 3 tapi_Node 0 [])), (10, (.dat (.int .i64)))], [.box 43 tapi_Node (.dat tapi_Node), .box 32 tapi_Shape (.dat tapi_Shape), .box 38 tref13_Split (.dat tref13_Split), .box 43 tapi_Node (.agg [(.dat (.list tapi_Pair)), (.own .str 4), (.own (.int .i64) 5), (.own tapi_Sum 6), (.dat (.list tapi_Msg))]), .arr 9 .str false, .arr 3 (.int .i64) false, .arr 72 tapi_Sum false]⟩, .ret, ⟨[(4, (.dat .bool))], []⟩, (.exit 0), ⟨[(5, (.dat .bool)), (6, (.ptr 0 tapi_Node 0 [])), (9, (.ptr 1 tapi_Node 0 []))], [.box 43 tapi_Node (.dat tapi_Node), .box 43 tapi_Node (.agg [(.dat (.list tapi_Pair)), (.own .str 2), (.own (.int .i64) 3), (.own tapi_Sum 4), (.dat (.list tapi_Msg))]), .arr 9 .str false, .arr 3 (.int .i64) false, .arr 72 tapi_Sum false]⟩⟩
def AS_law13_SplitKids : Shape := ⟨[(0, (.dat tref10_Raw)), (1, (.dat (.pair (.int .u8) (.pair (.int .u8) (.pair (.int .u8) .unit)))))], []⟩
def AZ_law13_SplitKids : Shape := ⟨[(0, (.dat .bool))], []⟩
def AE_law13_SplitKids : Ent := ⟨5, AS_law13_SplitKids, AZ_law13_SplitKids, law13_SplitKids⟩
def AF_law13_SplitKids : Fx := ⟨Acx, lookupG [AE_ref05_SameMsgs, AE_ref10_Same, AE_law13_inner, AE_law13_sanity, AE_ref13_Shape, AE_ref10_Made], fun k st => bif Nat.beq k 0 then AL_law13_SplitKids_0.go law13_SplitKids_l0 0 st else .fail, fun _ => none, 0⟩
theorem law13_SplitKids_b0_eq (s : AL_law13_SplitKids_0.S.ty.den) : @Eq (Option (AL_law13_SplitKids_0.S.ty.den ⊕ AL_law13_SplitKids_0.Out)) (AL_law13_SplitKids_0.body AF_law13_SplitKids (loopAt (bodyOf Try.f5) 0) 0 s).val (law13_SplitKids_b0 s) := by kernel_rfl
theorem law13_SplitKids_eq (s : AS_law13_SplitKids.ty.den) : @Eq (Option AZ_law13_SplitKids.ty.den) (evFn AF_law13_SplitKids Try.f5 AS_law13_SplitKids AZ_law13_SplitKids s).val (law13_SplitKids s) := by kernel_rfl
theorem law13_SplitKids_hG : GSound Try.prog AF_law13_SplitKids.Γ := ents_sound ⟨ref05_SameMsgs_ok, ref10_Same_ok, law13_inner_ok, law13_sanity_ok, ref13_Shape_ok, ref10_Made_ok, trivial⟩
theorem law13_SplitKids_la0 : LamOK Try.prog AF_law13_SplitKids Try.f5.ntmps 0 (loopAt (bodyOf Try.f5) 0) :=
  lam_sound Atab law13_SplitKids_hG Amixed (L := AL_law13_SplitKids_0) (f := law13_SplitKids_l0) (b := law13_SplitKids_b0) (m := []) (fun _ => rfl) (by kernel_rfl) (by kernel_rfl) trivial (by kernel_rfl) law13_SplitKids_b0_eq
theorem law13_SplitKids_ok : EntOK Try.prog AE_law13_SplitKids :=
  fun_sound (F := AF_law13_SplitKids) Atab law13_SplitKids_hG Amixed (fn := Try.f5) (m := [(0, loopAt (bodyOf Try.f5) 0)]) Try.func5 (by kernel_rfl) (by kernel_rfl) (by kernel_rfl) ⟨law13_SplitKids_la0, trivial⟩ (by kernel_rfl) law13_SplitKids_eq


end D
