/- Entries, by program. -/
import Derived.Test.YtknndobfgfmjeaaD
import Derived.Test.YtknndobfgfmjeaaChecked
set_option linter.unusedVariables false
set_option maxRecDepth 100000
open Go Go.X Go.Proofs D
namespace D
def Acx : Cx := ⟨[(3, ⟨(.int .i64), 0, [], 8, false, false⟩), (4, ⟨.bool, 0, [], 1, false, false⟩), (5, ⟨(.int .u8), 0, [], 1, false, false⟩), (9, ⟨.str, 0, [], 16, false, false⟩), (22, ⟨(.list (.pair (.int .u8) (.pair (.int .u8) (.pair (.int .u8) .unit)))), 63, [], 3, false, false⟩), (24, ⟨(.list tapi_Pair), 45, [], 40, false, false⟩), (26, ⟨(.list (.list tapi_Pair)), 24, [], 24, false, false⟩), (32, ⟨tapi_Shape, 0, [3, 3, 3], 24, true, false⟩), (34, ⟨(.list tapi_Node), 43, [], 120, false, false⟩), (35, ⟨(.list .str), 9, [], 16, false, false⟩), (36, ⟨(.list tapi_Msg), 59, [], 112, false, false⟩), (38, ⟨tref13_Split, 0, [34, 35, 36], 72, false, false⟩), (40, ⟨(.list (.int .i64)), 3, [], 8, false, false⟩), (41, ⟨(.list tapi_Sum), 72, [], 32, false, false⟩), (43, ⟨tapi_Node, 0, [24, 35, 40, 41, 36], 120, false, false⟩), (45, ⟨tapi_Pair, 0, [9, 9, 3], 40, true, false⟩), (47, ⟨(.list (.int .u8)), 5, [], 1, false, false⟩), (57, ⟨tapi_Span, 0, [9, 9], 32, true, false⟩), (59, ⟨tapi_Msg, 0, [3, 9, 9, 57, 9, 9, 3], 112, true, false⟩), (63, ⟨(.pair (.int .u8) (.pair (.int .u8) (.pair (.int .u8) .unit))), 0, [5, 5, 5], 3, false, true⟩), (70, ⟨tapi_Range, 0, [3, 3], 16, true, false⟩), (72, ⟨tapi_Sum, 0, [70, 70], 32, true, false⟩), (80, ⟨(.list (.list (.int .i64))), 40, [], 24, false, false⟩), (82, ⟨(.list (.list tapi_Sum)), 41, [], 24, false, false⟩)], fun _ _ => false⟩
theorem Atab : TabOK Try.prog Acx := tab_soundE (by kernel_rfl)
theorem Amixed : Try.prog.follows .mixedOrders = true := by kernel_rfl
/-! downspout/split.cut[downspout/api.Pair] -/
def AL_split_cut_api_Pair_0 : Lp := ⟨⟨[(0, (.dat (.list tapi_Pair))), (5, (.dat (.int .i64))), (6, (.own (.list tapi_Pair) 0)), (24, (.dat (.int .i64))), (25, (.dat (.int .i64)))], [.arr 24 (.list tapi_Pair) false]⟩, (.exit 0), ⟨[(6, (.own (.list tapi_Pair) 0))], [.arr 24 (.list tapi_Pair) false]⟩, .nrm, ⟨[], []⟩⟩
def AS_split_cut_api_Pair : Shape := ⟨[(0, (.dat (.list tapi_Pair))), (1, (.dat (.int .i64)))], []⟩
def AZ_split_cut_api_Pair : Shape := ⟨[(0, (.dat (.list (.list tapi_Pair))))], []⟩
def AE_split_cut_api_Pair : Ent := ⟨19, AS_split_cut_api_Pair, AZ_split_cut_api_Pair, split_cut_api_Pair⟩
def AF_split_cut_api_Pair : Fx := ⟨Acx, lookupG [], fun k st => bif Nat.beq k 0 then AL_split_cut_api_Pair_0.go split_cut_api_Pair_l0 0 st else .fail, fun _ => none, 0⟩
theorem split_cut_api_Pair_b0_eq (s : AL_split_cut_api_Pair_0.S.ty.den) : @Eq (Option (AL_split_cut_api_Pair_0.S.ty.den ⊕ AL_split_cut_api_Pair_0.Out)) (AL_split_cut_api_Pair_0.body AF_split_cut_api_Pair (loopAt (bodyOf Try.f19) 0) 0 s).val (split_cut_api_Pair_b0 s) := by kernel_rfl
theorem split_cut_api_Pair_eq (s : AS_split_cut_api_Pair.ty.den) : @Eq (Option AZ_split_cut_api_Pair.ty.den) (evFn AF_split_cut_api_Pair Try.f19 AS_split_cut_api_Pair AZ_split_cut_api_Pair s).val (split_cut_api_Pair s) := by kernel_rfl
theorem split_cut_api_Pair_hG : GSound Try.prog AF_split_cut_api_Pair.Γ := ents_sound trivial
theorem split_cut_api_Pair_la0 : LamOK Try.prog AF_split_cut_api_Pair Try.f19.ntmps 0 (loopAt (bodyOf Try.f19) 0) :=
  lam_sound Atab split_cut_api_Pair_hG Amixed (L := AL_split_cut_api_Pair_0) (f := split_cut_api_Pair_l0) (b := split_cut_api_Pair_b0) (m := []) (fun _ => rfl) (by kernel_rfl) (by kernel_rfl) trivial (by kernel_rfl) split_cut_api_Pair_b0_eq
theorem split_cut_api_Pair_ok : EntOK Try.prog AE_split_cut_api_Pair :=
  fun_sound (F := AF_split_cut_api_Pair) Atab split_cut_api_Pair_hG Amixed (fn := Try.f19) (m := [(0, loopAt (bodyOf Try.f19) 0)]) Try.func19 (by kernel_rfl) (by kernel_rfl) (by kernel_rfl) ⟨split_cut_api_Pair_la0, trivial⟩ (by kernel_rfl) split_cut_api_Pair_eq
/-! downspout/split.Pieces -/
def AS_split_Pieces : Shape := ⟨[(0, (.dat (.list tapi_Pair))), (1, (.dat (.int .i64)))], []⟩
def AZ_split_Pieces : Shape := ⟨[(0, (.dat (.list (.list tapi_Pair))))], []⟩
def AE_split_Pieces : Ent := ⟨8, AS_split_Pieces, AZ_split_Pieces, split_Pieces⟩
def AF_split_Pieces : Fx := ⟨Acx, lookupG [AE_split_cut_api_Pair], fun k st => .fail, fun _ => none, 0⟩
theorem split_Pieces_eq (s : AS_split_Pieces.ty.den) : @Eq (Option AZ_split_Pieces.ty.den) (evFn AF_split_Pieces Try.f8 AS_split_Pieces AZ_split_Pieces s).val (split_Pieces s) := by kernel_rfl
theorem split_Pieces_hG : GSound Try.prog AF_split_Pieces.Γ := ents_sound ⟨split_cut_api_Pair_ok, trivial⟩
theorem split_Pieces_ok : EntOK Try.prog AE_split_Pieces :=
  fun_sound (F := AF_split_Pieces) Atab split_Pieces_hG Amixed (fn := Try.f8) (m := []) Try.func8 (by kernel_rfl) (by kernel_rfl) (by kernel_rfl) trivial (by kernel_rfl) split_Pieces_eq
/-! downspout/split.Leaf -/
def AL_split_Leaf_0 : Lp := ⟨⟨[(6, (.own tapi_Node 0)), (7, (.own .str 1)), (14, (.dat (.list (.list tapi_Pair)))), (15, (.dat (.int .i64))), (16, (.dat (.int .i64)))], [.arr 43 tapi_Node false, .arr 9 .str false]⟩, (.exit 0), ⟨[(6, (.own tapi_Node 0)), (7, (.own .str 1))], [.arr 43 tapi_Node false, .arr 9 .str false]⟩, .nrm, ⟨[], []⟩⟩
def AS_split_Leaf : Shape := ⟨[(0, (.dat tapi_Node)), (1, (.dat tapi_Shape))], []⟩
def AZ_split_Leaf : Shape := ⟨[(0, (.dat (.list tapi_Node))), (1, (.dat (.list .str)))], []⟩
def AE_split_Leaf : Ent := ⟨20, AS_split_Leaf, AZ_split_Leaf, split_Leaf⟩
def AF_split_Leaf : Fx := ⟨Acx, lookupG [AE_split_cut_api_Pair], fun k st => bif Nat.beq k 0 then AL_split_Leaf_0.go split_Leaf_l0 0 st else .fail, fun _ => none, 0⟩
theorem split_Leaf_b0_eq (s : AL_split_Leaf_0.S.ty.den) : @Eq (Option (AL_split_Leaf_0.S.ty.den ⊕ AL_split_Leaf_0.Out)) (AL_split_Leaf_0.body AF_split_Leaf (loopAt (bodyOf Try.f20) 0) 0 s).val (split_Leaf_b0 s) := by kernel_rfl
theorem split_Leaf_eq (s : AS_split_Leaf.ty.den) : @Eq (Option AZ_split_Leaf.ty.den) (evFn AF_split_Leaf Try.f20 AS_split_Leaf AZ_split_Leaf s).val (split_Leaf s) := by kernel_rfl
theorem split_Leaf_hG : GSound Try.prog AF_split_Leaf.Γ := ents_sound ⟨split_cut_api_Pair_ok, trivial⟩
theorem split_Leaf_la0 : LamOK Try.prog AF_split_Leaf Try.f20.ntmps 0 (loopAt (bodyOf Try.f20) 0) :=
  lam_sound Atab split_Leaf_hG Amixed (L := AL_split_Leaf_0) (f := split_Leaf_l0) (b := split_Leaf_b0) (m := []) (fun _ => rfl) (by kernel_rfl) (by kernel_rfl) trivial (by kernel_rfl) split_Leaf_b0_eq
theorem split_Leaf_ok : EntOK Try.prog AE_split_Leaf :=
  fun_sound (F := AF_split_Leaf) Atab split_Leaf_hG Amixed (fn := Try.f20) (m := [(0, loopAt (bodyOf Try.f20) 0)]) Try.func20 (by kernel_rfl) (by kernel_rfl) (by kernel_rfl) ⟨split_Leaf_la0, trivial⟩ (by kernel_rfl) split_Leaf_eq
/-! downspout/downspoutlaw13.leaf -/
def AS_law13_leaf : Shape := ⟨[(0, (.dat tapi_Node)), (1, (.dat tapi_Shape))], []⟩
def AZ_law13_leaf : Shape := ⟨[(0, (.dat tref13_Split))], []⟩
def AE_law13_leaf : Ent := ⟨11, AS_law13_leaf, AZ_law13_leaf, law13_leaf⟩
def AF_law13_leaf : Fx := ⟨Acx, lookupG [AE_split_Leaf], fun k st => .fail, fun _ => none, 0⟩
theorem law13_leaf_eq (s : AS_law13_leaf.ty.den) : @Eq (Option AZ_law13_leaf.ty.den) (evFn AF_law13_leaf Try.f11 AS_law13_leaf AZ_law13_leaf s).val (law13_leaf s) := by kernel_rfl
theorem law13_leaf_hG : GSound Try.prog AF_law13_leaf.Γ := ents_sound ⟨split_Leaf_ok, trivial⟩
theorem law13_leaf_ok : EntOK Try.prog AE_law13_leaf :=
  fun_sound (F := AF_law13_leaf) Atab law13_leaf_hG Amixed (fn := Try.f11) (m := []) Try.func11 (by kernel_rfl) (by kernel_rfl) (by kernel_rfl) trivial (by kernel_rfl) law13_leaf_eq
/-! downspout/downspoutlaw13.sameTexts -/
def AL_law13_sameTexts_0 : Lp := ⟨⟨[(0, (.dat (.list .str))), (1, (.dat (.list .str))), (5, (.dat (.int .i64)))], []⟩, .ret, ⟨[(4, (.dat .bool))], []⟩, (.exit 0), ⟨[], []⟩⟩
def AS_law13_sameTexts : Shape := ⟨[(0, (.dat (.list .str))), (1, (.dat (.list .str)))], []⟩
def AZ_law13_sameTexts : Shape := ⟨[(0, (.dat .bool))], []⟩
def AE_law13_sameTexts : Ent := ⟨25, AS_law13_sameTexts, AZ_law13_sameTexts, law13_sameTexts⟩
def AF_law13_sameTexts : Fx := ⟨Acx, lookupG [], fun k st => bif Nat.beq k 0 then AL_law13_sameTexts_0.go law13_sameTexts_l0 0 st else .fail, fun _ => none, 0⟩
theorem law13_sameTexts_b0_eq (s : AL_law13_sameTexts_0.S.ty.den) : @Eq (Option (AL_law13_sameTexts_0.S.ty.den ⊕ AL_law13_sameTexts_0.Out)) (AL_law13_sameTexts_0.body AF_law13_sameTexts (loopAt (bodyOf Try.f25) 0) 0 s).val (law13_sameTexts_b0 s) := by kernel_rfl
theorem law13_sameTexts_eq (s : AS_law13_sameTexts.ty.den) : @Eq (Option AZ_law13_sameTexts.ty.den) (evFn AF_law13_sameTexts Try.f25 AS_law13_sameTexts AZ_law13_sameTexts s).val (law13_sameTexts s) := by kernel_rfl
theorem law13_sameTexts_hG : GSound Try.prog AF_law13_sameTexts.Γ := ents_sound trivial
theorem law13_sameTexts_la0 : LamOK Try.prog AF_law13_sameTexts Try.f25.ntmps 0 (loopAt (bodyOf Try.f25) 0) :=
  lam_sound Atab law13_sameTexts_hG Amixed (L := AL_law13_sameTexts_0) (f := law13_sameTexts_l0) (b := law13_sameTexts_b0) (m := []) (fun _ => rfl) (by kernel_rfl) (by kernel_rfl) trivial (by kernel_rfl) law13_sameTexts_b0_eq
theorem law13_sameTexts_ok : EntOK Try.prog AE_law13_sameTexts :=
  fun_sound (F := AF_law13_sameTexts) Atab law13_sameTexts_hG Amixed (fn := Try.f25) (m := [(0, loopAt (bodyOf Try.f25) 0)]) Try.func25 (by kernel_rfl) (by kernel_rfl) (by kernel_rfl) ⟨law13_sameTexts_la0, trivial⟩ (by kernel_rfl) law13_sameTexts_eq
/-! downspout/downspoutref05.SameMsgs -/
def AL_ref05_SameMsgs_0 : Lp := ⟨⟨[(0, (.dat (.list tapi_Msg))), (1, (.dat (.list tapi_Msg))), (5, (.dat (.int .i64)))], []⟩, .ret, ⟨[(4, (.dat .bool))], []⟩, (.exit 0), ⟨[], []⟩⟩
def AS_ref05_SameMsgs : Shape := ⟨[(0, (.dat (.list tapi_Msg))), (1, (.dat (.list tapi_Msg)))], []⟩
def AZ_ref05_SameMsgs : Shape := ⟨[(0, (.dat .bool))], []⟩
def AE_ref05_SameMsgs : Ent := ⟨14, AS_ref05_SameMsgs, AZ_ref05_SameMsgs, ref05_SameMsgs⟩
def AF_ref05_SameMsgs : Fx := ⟨Acx, lookupG [], fun k st => bif Nat.beq k 0 then AL_ref05_SameMsgs_0.go ref05_SameMsgs_l0 0 st else .fail, fun _ => none, 0⟩
theorem ref05_SameMsgs_b0_eq (s : AL_ref05_SameMsgs_0.S.ty.den) : @Eq (Option (AL_ref05_SameMsgs_0.S.ty.den ⊕ AL_ref05_SameMsgs_0.Out)) (AL_ref05_SameMsgs_0.body AF_ref05_SameMsgs (loopAt (bodyOf Try.f14) 0) 0 s).val (ref05_SameMsgs_b0 s) := by kernel_rfl
theorem ref05_SameMsgs_eq (s : AS_ref05_SameMsgs.ty.den) : @Eq (Option AZ_ref05_SameMsgs.ty.den) (evFn AF_ref05_SameMsgs Try.f14 AS_ref05_SameMsgs AZ_ref05_SameMsgs s).val (ref05_SameMsgs s) := by kernel_rfl
theorem ref05_SameMsgs_hG : GSound Try.prog AF_ref05_SameMsgs.Γ := ents_sound trivial
theorem ref05_SameMsgs_la0 : LamOK Try.prog AF_ref05_SameMsgs Try.f14.ntmps 0 (loopAt (bodyOf Try.f14) 0) :=
  lam_sound Atab ref05_SameMsgs_hG Amixed (L := AL_ref05_SameMsgs_0) (f := ref05_SameMsgs_l0) (b := ref05_SameMsgs_b0) (m := []) (fun _ => rfl) (by kernel_rfl) (by kernel_rfl) trivial (by kernel_rfl) ref05_SameMsgs_b0_eq
theorem ref05_SameMsgs_ok : EntOK Try.prog AE_ref05_SameMsgs :=
  fun_sound (F := AF_ref05_SameMsgs) Atab ref05_SameMsgs_hG Amixed (fn := Try.f14) (m := [(0, loopAt (bodyOf Try.f14) 0)]) Try.func14 (by kernel_rfl) (by kernel_rfl) (by kernel_rfl) ⟨ref05_SameMsgs_la0, trivial⟩ (by kernel_rfl) ref05_SameMsgs_eq
/-! downspout/downspoutref04.Same -/
def AL_ref04_Same_0 : Lp := ⟨⟨[(0, (.dat (.list tapi_Pair))), (1, (.dat (.list tapi_Pair))), (5, (.dat (.int .i64)))], []⟩, .ret, ⟨[(4, (.dat .bool))], []⟩, (.exit 0), ⟨[], []⟩⟩
def AS_ref04_Same : Shape := ⟨[(0, (.dat (.list tapi_Pair))), (1, (.dat (.list tapi_Pair)))], []⟩
def AZ_ref04_Same : Shape := ⟨[(0, (.dat .bool))], []⟩
def AE_ref04_Same : Ent := ⟨9, AS_ref04_Same, AZ_ref04_Same, ref04_Same⟩
def AF_ref04_Same : Fx := ⟨Acx, lookupG [], fun k st => bif Nat.beq k 0 then AL_ref04_Same_0.go ref04_Same_l0 0 st else .fail, fun _ => none, 0⟩
theorem ref04_Same_b0_eq (s : AL_ref04_Same_0.S.ty.den) : @Eq (Option (AL_ref04_Same_0.S.ty.den ⊕ AL_ref04_Same_0.Out)) (AL_ref04_Same_0.body AF_ref04_Same (loopAt (bodyOf Try.f9) 0) 0 s).val (ref04_Same_b0 s) := by kernel_rfl
theorem ref04_Same_eq (s : AS_ref04_Same.ty.den) : @Eq (Option AZ_ref04_Same.ty.den) (evFn AF_ref04_Same Try.f9 AS_ref04_Same AZ_ref04_Same s).val (ref04_Same s) := by kernel_rfl
theorem ref04_Same_hG : GSound Try.prog AF_ref04_Same.Γ := ents_sound trivial
theorem ref04_Same_la0 : LamOK Try.prog AF_ref04_Same Try.f9.ntmps 0 (loopAt (bodyOf Try.f9) 0) :=
  lam_sound Atab ref04_Same_hG Amixed (L := AL_ref04_Same_0) (f := ref04_Same_l0) (b := ref04_Same_b0) (m := []) (fun _ => rfl) (by kernel_rfl) (by kernel_rfl) trivial (by kernel_rfl) ref04_Same_b0_eq
theorem ref04_Same_ok : EntOK Try.prog AE_ref04_Same :=
  fun_sound (F := AF_ref04_Same) Atab ref04_Same_hG Amixed (fn := Try.f9) (m := [(0, loopAt (bodyOf Try.f9) 0)]) Try.func9 (by kernel_rfl) (by kernel_rfl) (by kernel_rfl) ⟨ref04_Same_la0, trivial⟩ (by kernel_rfl) ref04_Same_eq
/-! downspout/downspoutref10.Same -/
def AL_ref10_Same_0 : Lp := ⟨⟨[(2, (.ptr 0 tapi_Node 0 [])), (3, (.ptr 1 tapi_Node 0 [])), (5, (.dat (.int .i64)))], [.box 43 tapi_Node (.dat tapi_Node), .box 43 tapi_Node (.dat tapi_Node)]⟩, .ret, ⟨[(4, (.dat .bool))], []⟩, (.exit 0), ⟨[(2, (.ptr 0 tapi_Node 0 [])), (3, (.ptr 1 tapi_Node 0 []))], [.box 43 tapi_Node (.dat tapi_Node), .box 43 tapi_Node (.dat tapi_Node)]⟩⟩
def AL_ref10_Same_1 : Lp := ⟨⟨[(2, (.ptr 0 tapi_Node 0 [])), (3, (.ptr 1 tapi_Node 0 [])), (6, (.dat (.int .i64)))], [.box 43 tapi_Node (.dat tapi_Node), .box 43 tapi_Node (.dat tapi_Node)]⟩, .ret, ⟨[(4, (.dat .bool))], []⟩, (.exit 2), ⟨[(2, (.ptr 0 tapi_Node 0 [])), (3, (.ptr 1 tapi_Node 0 []))], [.box 43 tapi_Node (.dat tapi_Node), .box 43 tapi_Node (.dat tapi_Node)]⟩⟩
def AL_ref10_Same_2 : Lp := ⟨⟨[(2, (.ptr 0 tapi_Node 0 [])), (3, (.ptr 1 tapi_Node 0 [])), (7, (.dat (.int .i64)))], [.box 43 tapi_Node (.dat tapi_Node), .box 43 tapi_Node (.dat tapi_Node)]⟩, .ret, ⟨[(4, (.dat .bool))], []⟩, (.exit 4), ⟨[], []⟩⟩
def AS_ref10_Same : Shape := ⟨[(0, (.dat tapi_Node)), (1, (.dat tapi_Node))], []⟩
def AZ_ref10_Same : Shape := ⟨[(0, (.dat .bool))], []⟩
def AE_ref10_Same : Ent := ⟨15, AS_ref10_Same, AZ_ref10_Same, ref10_Same⟩
def AF_ref10_Same : Fx := ⟨Acx, lookupG [AE_ref05_SameMsgs, AE_ref04_Same], fun k st => bif Nat.beq k 0 then AL_ref10_Same_0.go ref10_Same_l0 0 st else bif Nat.beq k 2 then AL_ref10_Same_1.go ref10_Same_l1 0 st else bif Nat.beq k 4 then AL_ref10_Same_2.go ref10_Same_l2 0 st else .fail, fun _ => none, 0⟩
theorem ref10_Same_b0_eq (s : AL_ref10_Same_0.S.ty.den) : @Eq (Option (AL_ref10_Same_0.S.ty.den ⊕ AL_ref10_Same_0.Out)) (AL_ref10_Same_0.body AF_ref10_Same (loopAt (bodyOf Try.f15) 0) 0 s).val (ref10_Same_b0 s) := by kernel_rfl
theorem ref10_Same_b1_eq (s : AL_ref10_Same_1.S.ty.den) : @Eq (Option (AL_ref10_Same_1.S.ty.den ⊕ AL_ref10_Same_1.Out)) (AL_ref10_Same_1.body AF_ref10_Same (loopAt (bodyOf Try.f15) 1) 2 s).val (ref10_Same_b1 s) := by kernel_rfl
theorem ref10_Same_b2_eq (s : AL_ref10_Same_2.S.ty.den) : @Eq (Option (AL_ref10_Same_2.S.ty.den ⊕ AL_ref10_Same_2.Out)) (AL_ref10_Same_2.body AF_ref10_Same (loopAt (bodyOf Try.f15) 2) 4 s).val (ref10_Same_b2 s) := by kernel_rfl
theorem ref10_Same_eq (s : AS_ref10_Same.ty.den) : @Eq (Option AZ_ref10_Same.ty.den) (evFn AF_ref10_Same Try.f15 AS_ref10_Same AZ_ref10_Same s).val (ref10_Same s) := by kernel_rfl
theorem ref10_Same_hG : GSound Try.prog AF_ref10_Same.Γ := ents_sound ⟨ref05_SameMsgs_ok, ref04_Same_ok, trivial⟩
theorem ref10_Same_la0 : LamOK Try.prog AF_ref10_Same Try.f15.ntmps 0 (loopAt (bodyOf Try.f15) 0) :=
  lam_sound Atab ref10_Same_hG Amixed (L := AL_ref10_Same_0) (f := ref10_Same_l0) (b := ref10_Same_b0) (m := []) (fun _ => rfl) (by kernel_rfl) (by kernel_rfl) trivial (by kernel_rfl) ref10_Same_b0_eq
theorem ref10_Same_la1 : LamOK Try.prog AF_ref10_Same Try.f15.ntmps 2 (loopAt (bodyOf Try.f15) 1) :=
  lam_sound Atab ref10_Same_hG Amixed (L := AL_ref10_Same_1) (f := ref10_Same_l1) (b := ref10_Same_b1) (m := []) (fun _ => rfl) (by kernel_rfl) (by kernel_rfl) trivial (by kernel_rfl) ref10_Same_b1_eq
theorem ref10_Same_la2 : LamOK Try.prog AF_ref10_Same Try.f15.ntmps 4 (loopAt (bodyOf Try.f15) 2) :=
  lam_sound Atab ref10_Same_hG Amixed (L := AL_ref10_Same_2) (f := ref10_Same_l2) (b := ref10_Same_b2) (m := []) (fun _ => rfl) (by kernel_rfl) (by kernel_rfl) trivial (by kernel_rfl) ref10_Same_b2_eq
theorem ref10_Same_ok : EntOK Try.prog AE_ref10_Same :=
  fun_sound (F := AF_ref10_Same) Atab ref10_Same_hG Amixed (fn := Try.f15) (m := [(0, loopAt (bodyOf Try.f15) 0), (2, loopAt (bodyOf Try.f15) 1), (4, loopAt (bodyOf Try.f15) 2)]) Try.func15 (by kernel_rfl) (by kernel_rfl) (by kernel_rfl) ⟨ref10_Same_la0, ref10_Same_la1, ref10_Same_la2, trivial⟩ (by kernel_rfl) ref10_Same_eq
/-! downspout/downspoutlaw13.same -/
def AL_law13_same_0 : Lp := ⟨⟨[(2, (.ptr 0 tref13_Split 0 [])), (3, (.ptr 1 tref13_Split 0 [])), (5, (.dat (.int .i64)))], [.box 38 tref13_Split (.dat tref13_Split), .box 38 tref13_Split (.dat tref13_Split)]⟩, .ret, ⟨[(4, (.dat .bool))], []⟩, (.exit 0), ⟨[], []⟩⟩
def AS_law13_same : Shape := ⟨[(0, (.dat tref13_Split)), (1, (.dat tref13_Split))], []⟩
def AZ_law13_same : Shape := ⟨[(0, (.dat .bool))], []⟩
def AE_law13_same : Ent := ⟨16, AS_law13_same, AZ_law13_same, law13_same⟩
def AF_law13_same : Fx := ⟨Acx, lookupG [AE_law13_sameTexts, AE_ref05_SameMsgs, AE_ref10_Same], fun k st => bif Nat.beq k 0 then AL_law13_same_0.go law13_same_l0 0 st else .fail, fun _ => none, 0⟩
theorem law13_same_b0_eq (s : AL_law13_same_0.S.ty.den) : @Eq (Option (AL_law13_same_0.S.ty.den ⊕ AL_law13_same_0.Out)) (AL_law13_same_0.body AF_law13_same (loopAt (bodyOf Try.f16) 0) 0 s).val (law13_same_b0 s) := by kernel_rfl
theorem law13_same_eq (s : AS_law13_same.ty.den) : @Eq (Option AZ_law13_same.ty.den) (evFn AF_law13_same Try.f16 AS_law13_same AZ_law13_same s).val (law13_same s) := by kernel_rfl
theorem law13_same_hG : GSound Try.prog AF_law13_same.Γ := ents_sound ⟨law13_sameTexts_ok, ref05_SameMsgs_ok, ref10_Same_ok, trivial⟩
theorem law13_same_la0 : LamOK Try.prog AF_law13_same Try.f16.ntmps 0 (loopAt (bodyOf Try.f16) 0) :=
  lam_sound Atab law13_same_hG Amixed (L := AL_law13_same_0) (f := law13_same_l0) (b := law13_same_b0) (m := []) (fun _ => rfl) (by kernel_rfl) (by kernel_rfl) trivial (by kernel_rfl) law13_same_b0_eq
theorem law13_same_ok : EntOK Try.prog AE_law13_same :=
  fun_sound (F := AF_law13_same) Atab law13_same_hG Amixed (fn := Try.f16) (m := [(0, loopAt (bodyOf Try.f16) 0)]) Try.func16 (by kernel_rfl) (by kernel_rfl) (by kernel_rfl) ⟨law13_same_la0, trivial⟩ (by kernel_rfl) law13_same_eq
/-! downspout/split.cut[int] -/
def AL_split_cut_int_0 : Lp := ⟨⟨[(0, (.dat (.list (.int .i64)))), (5, (.dat (.int .i64))), (6, (.own (.list (.int .i64)) 0)), (24, (.dat (.int .i64))), (25, (.dat (.int .i64)))], [.arr 40 (.list (.int .i64)) false]⟩, (.exit 0), ⟨[(6, (.own (.list (.int .i64)) 0))], [.arr 40 (.list (.int .i64)) false]⟩, .nrm, ⟨[], []⟩⟩
def AS_split_cut_int : Shape := ⟨[(0, (.dat (.list (.int .i64)))), (1, (.dat (.int .i64)))], []⟩
def AZ_split_cut_int : Shape := ⟨[(0, (.dat (.list (.list (.int .i64)))))], []⟩
def AE_split_cut_int : Ent := ⟨27, AS_split_cut_int, AZ_split_cut_int, split_cut_int⟩
def AF_split_cut_int : Fx := ⟨Acx, lookupG [], fun k st => bif Nat.beq k 0 then AL_split_cut_int_0.go split_cut_int_l0 0 st else .fail, fun _ => none, 0⟩
theorem split_cut_int_b0_eq (s : AL_split_cut_int_0.S.ty.den) : @Eq (Option (AL_split_cut_int_0.S.ty.den ⊕ AL_split_cut_int_0.Out)) (AL_split_cut_int_0.body AF_split_cut_int (loopAt (bodyOf Try.f27) 0) 0 s).val (split_cut_int_b0 s) := by kernel_rfl
theorem split_cut_int_eq (s : AS_split_cut_int.ty.den) : @Eq (Option AZ_split_cut_int.ty.den) (evFn AF_split_cut_int Try.f27 AS_split_cut_int AZ_split_cut_int s).val (split_cut_int s) := by kernel_rfl
theorem split_cut_int_hG : GSound Try.prog AF_split_cut_int.Γ := ents_sound trivial
theorem split_cut_int_la0 : LamOK Try.prog AF_split_cut_int Try.f27.ntmps 0 (loopAt (bodyOf Try.f27) 0) :=
  lam_sound Atab split_cut_int_hG Amixed (L := AL_split_cut_int_0) (f := split_cut_int_l0) (b := split_cut_int_b0) (m := []) (fun _ => rfl) (by kernel_rfl) (by kernel_rfl) trivial (by kernel_rfl) split_cut_int_b0_eq
theorem split_cut_int_ok : EntOK Try.prog AE_split_cut_int :=
  fun_sound (F := AF_split_cut_int) Atab split_cut_int_hG Amixed (fn := Try.f27) (m := [(0, loopAt (bodyOf Try.f27) 0)]) Try.func27 (by kernel_rfl) (by kernel_rfl) (by kernel_rfl) ⟨split_cut_int_la0, trivial⟩ (by kernel_rfl) split_cut_int_eq
/-! downspout/split.cut[downspout/api.Sum] -/
def AL_split_cut_api_Sum_0 : Lp := ⟨⟨[(0, (.dat (.list tapi_Sum))), (5, (.dat (.int .i64))), (6, (.own (.list tapi_Sum) 0)), (24, (.dat (.int .i64))), (25, (.dat (.int .i64)))], [.arr 41 (.list tapi_Sum) false]⟩, (.exit 0), ⟨[(6, (.own (.list tapi_Sum) 0))], [.arr 41 (.list tapi_Sum) false]⟩, .nrm, ⟨[], []⟩⟩
def AS_split_cut_api_Sum : Shape := ⟨[(0, (.dat (.list tapi_Sum))), (1, (.dat (.int .i64)))], []⟩
def AZ_split_cut_api_Sum : Shape := ⟨[(0, (.dat (.list (.list tapi_Sum))))], []⟩
def AE_split_cut_api_Sum : Ent := ⟨28, AS_split_cut_api_Sum, AZ_split_cut_api_Sum, split_cut_api_Sum⟩
def AF_split_cut_api_Sum : Fx := ⟨Acx, lookupG [], fun k st => bif Nat.beq k 0 then AL_split_cut_api_Sum_0.go split_cut_api_Sum_l0 0 st else .fail, fun _ => none, 0⟩
theorem split_cut_api_Sum_b0_eq (s : AL_split_cut_api_Sum_0.S.ty.den) : @Eq (Option (AL_split_cut_api_Sum_0.S.ty.den ⊕ AL_split_cut_api_Sum_0.Out)) (AL_split_cut_api_Sum_0.body AF_split_cut_api_Sum (loopAt (bodyOf Try.f28) 0) 0 s).val (split_cut_api_Sum_b0 s) := by kernel_rfl
theorem split_cut_api_Sum_eq (s : AS_split_cut_api_Sum.ty.den) : @Eq (Option AZ_split_cut_api_Sum.ty.den) (evFn AF_split_cut_api_Sum Try.f28 AS_split_cut_api_Sum AZ_split_cut_api_Sum s).val (split_cut_api_Sum s) := by kernel_rfl
theorem split_cut_api_Sum_hG : GSound Try.prog AF_split_cut_api_Sum.Γ := ents_sound trivial
theorem split_cut_api_Sum_la0 : LamOK Try.prog AF_split_cut_api_Sum Try.f28.ntmps 0 (loopAt (bodyOf Try.f28) 0) :=
  lam_sound Atab split_cut_api_Sum_hG Amixed (L := AL_split_cut_api_Sum_0) (f := split_cut_api_Sum_l0) (b := split_cut_api_Sum_b0) (m := []) (fun _ => rfl) (by kernel_rfl) (by kernel_rfl) trivial (by kernel_rfl) split_cut_api_Sum_b0_eq
theorem split_cut_api_Sum_ok : EntOK Try.prog AE_split_cut_api_Sum :=
  fun_sound (F := AF_split_cut_api_Sum) Atab split_cut_api_Sum_hG Amixed (fn := Try.f28) (m := [(0, loopAt (bodyOf Try.f28) 0)]) Try.func28 (by kernel_rfl) (by kernel_rfl) (by kernel_rfl) ⟨split_cut_api_Sum_la0, trivial⟩ (by kernel_rfl) split_cut_api_Sum_eq
/-! downspout/split.Inner -/
def AL_split_Inner_0 : Lp := ⟨⟨[(2, (.ptr 0 tapi_Node 0 [])), (7, (.dat (.list (.list (.int .i64))))), (8, (.dat (.list (.list tapi_Sum)))), (9, (.own tapi_Node 1)), (10, (.own .str 2)), (11, (.dat (.list .str))), (30, (.dat (.int .i64))), (31, (.dat (.int .i64)))], [.box 43 tapi_Node (.dat tapi_Node), .arr 43 tapi_Node false, .arr 9 .str false]⟩, (.exit 0), ⟨[(2, (.ptr 0 tapi_Node 0 [])), (9, (.own tapi_Node 1)), (10, (.own .str 2))], [.box 43 tapi_Node (.dat tapi_Node), .arr 43 tapi_Node false, .arr 9 .str false]⟩, .nrm, ⟨[], []⟩⟩
def AS_split_Inner : Shape := ⟨[(0, (.dat tapi_Node)), (1, (.dat tapi_Shape))], []⟩
def AZ_split_Inner : Shape := ⟨[(0, (.dat (.list tapi_Node))), (1, (.dat (.list .str))), (2, (.dat (.list tapi_Msg)))], []⟩
def AE_split_Inner : Ent := ⟨24, AS_split_Inner, AZ_split_Inner, split_Inner⟩
def AF_split_Inner : Fx := ⟨Acx, lookupG [AE_split_cut_int, AE_split_cut_api_Sum], fun k st => bif Nat.beq k 0 then AL_split_Inner_0.go split_Inner_l0 0 st else .fail, fun _ => none, 0⟩
theorem split_Inner_b0_eq (s : AL_split_Inner_0.S.ty.den) : @Eq (Option (AL_split_Inner_0.S.ty.den ⊕ AL_split_Inner_0.Out)) (AL_split_Inner_0.body AF_split_Inner (loopAt (bodyOf Try.f24) 0) 0 s).val (split_Inner_b0 s) := by kernel_rfl
theorem split_Inner_eq (s : AS_split_Inner.ty.den) : @Eq (Option AZ_split_Inner.ty.den) (evFn AF_split_Inner Try.f24 AS_split_Inner AZ_split_Inner s).val (split_Inner s) := by kernel_rfl
theorem split_Inner_hG : GSound Try.prog AF_split_Inner.Γ := ents_sound ⟨split_cut_int_ok, split_cut_api_Sum_ok, trivial⟩
theorem split_Inner_la0 : LamOK Try.prog AF_split_Inner Try.f24.ntmps 0 (loopAt (bodyOf Try.f24) 0) :=
  lam_sound Atab split_Inner_hG Amixed (L := AL_split_Inner_0) (f := split_Inner_l0) (b := split_Inner_b0) (m := []) (fun _ => rfl) (by kernel_rfl) (by kernel_rfl) trivial (by kernel_rfl) split_Inner_b0_eq
theorem split_Inner_ok : EntOK Try.prog AE_split_Inner :=
  fun_sound (F := AF_split_Inner) Atab split_Inner_hG Amixed (fn := Try.f24) (m := [(0, loopAt (bodyOf Try.f24) 0)]) Try.func24 (by kernel_rfl) (by kernel_rfl) (by kernel_rfl) ⟨split_Inner_la0, trivial⟩ (by kernel_rfl) split_Inner_eq
/-! downspout/downspoutlaw13.inner -/
def AS_law13_inner : Shape := ⟨[(0, (.dat tapi_Node)), (1, (.dat tapi_Shape))], []⟩
def AZ_law13_inner : Shape := ⟨[(0, (.dat tref13_Split))], []⟩
def AE_law13_inner : Ent := ⟨13, AS_law13_inner, AZ_law13_inner, law13_inner⟩
def AF_law13_inner : Fx := ⟨Acx, lookupG [AE_split_Inner], fun k st => .fail, fun _ => none, 0⟩
theorem law13_inner_eq (s : AS_law13_inner.ty.den) : @Eq (Option AZ_law13_inner.ty.den) (evFn AF_law13_inner Try.f13 AS_law13_inner AZ_law13_inner s).val (law13_inner s) := by kernel_rfl
theorem law13_inner_hG : GSound Try.prog AF_law13_inner.Γ := ents_sound ⟨split_Inner_ok, trivial⟩
theorem law13_inner_ok : EntOK Try.prog AE_law13_inner :=
  fun_sound (F := AF_law13_inner) Atab law13_inner_hG Amixed (fn := Try.f13) (m := []) Try.func13 (by kernel_rfl) (by kernel_rfl) (by kernel_rfl) trivial (by kernel_rfl) law13_inner_eq
/-! downspout/downspoutlaw13.sanity -/
def AL_law13_sanity_0 : Lp := ⟨⟨[(1, (.own tapi_Pair 0)), (2, (.dat (.int .i64)))], [.arr 45 tapi_Pair false]⟩, (.exit 0), ⟨[(1, (.own tapi_Pair 0))], [.arr 45 tapi_Pair false]⟩, .nrm, ⟨[], []⟩⟩
def AS_law13_sanity : Shape := ⟨[], []⟩
def AZ_law13_sanity : Shape := ⟨[(0, (.dat .bool))], []⟩
def AE_law13_sanity : Ent := ⟨6, AS_law13_sanity, AZ_law13_sanity, law13_sanity⟩
def AF_law13_sanity : Fx := ⟨Acx, lookupG [AE_split_Pieces, AE_law13_leaf, AE_law13_same, AE_law13_inner], fun k st => bif Nat.beq k 0 then AL_law13_sanity_0.go law13_sanity_l0 0 st else .fail, fun _ => none, 0⟩
theorem law13_sanity_b0_eq (s : AL_law13_sanity_0.S.ty.den) : @Eq (Option (AL_law13_sanity_0.S.ty.den ⊕ AL_law13_sanity_0.Out)) (AL_law13_sanity_0.body AF_law13_sanity (loopAt (bodyOf Try.f6) 0) 0 s).val (law13_sanity_b0 s) := by kernel_rfl
theorem law13_sanity_eq (s : AS_law13_sanity.ty.den) : @Eq (Option AZ_law13_sanity.ty.den) (evFn AF_law13_sanity Try.f6 AS_law13_sanity AZ_law13_sanity s).val (law13_sanity s) := by kernel_rfl
theorem law13_sanity_hG : GSound Try.prog AF_law13_sanity.Γ := ents_sound ⟨split_Pieces_ok, law13_leaf_ok, law13_same_ok, law13_inner_ok, trivial⟩
theorem law13_sanity_la0 : LamOK Try.prog AF_law13_sanity Try.f6.ntmps 0 (loopAt (bodyOf Try.f6) 0) :=
  lam_sound Atab law13_sanity_hG Amixed (L := AL_law13_sanity_0) (f := law13_sanity_l0) (b := law13_sanity_b0) (m := []) (fun _ => rfl) (by kernel_rfl) (by kernel_rfl) trivial (by kernel_rfl) law13_sanity_b0_eq
theorem law13_sanity_ok : EntOK Try.prog AE_law13_sanity :=
  fun_sound (F := AF_law13_sanity) Atab law13_sanity_hG Amixed (fn := Try.f6) (m := [(0, loopAt (bodyOf Try.f6) 0)]) Try.func6 (by kernel_rfl) (by kernel_rfl) (by kernel_rfl) ⟨law13_sanity_la0, trivial⟩ (by kernel_rfl) law13_sanity_eq
/-! downspout/downspoutref04.Key -/
def AS_ref04_Key : Shape := ⟨[(0, (.dat (.int .u8)))], []⟩
def AZ_ref04_Key : Shape := ⟨[(0, (.dat .str))], []⟩
def AE_ref04_Key : Ent := ⟨21, AS_ref04_Key, AZ_ref04_Key, ref04_Key⟩
def AF_ref04_Key : Fx := ⟨Acx, lookupG [], fun k st => .fail, fun _ => none, 0⟩
theorem ref04_Key_eq (s : AS_ref04_Key.ty.den) : @Eq (Option AZ_ref04_Key.ty.den) (evFn AF_ref04_Key Try.f21 AS_ref04_Key AZ_ref04_Key s).val (ref04_Key s) := by kernel_rfl
theorem ref04_Key_hG : GSound Try.prog AF_ref04_Key.Γ := ents_sound trivial
theorem ref04_Key_ok : EntOK Try.prog AE_ref04_Key :=
  fun_sound (F := AF_ref04_Key) Atab ref04_Key_hG Amixed (fn := Try.f21) (m := []) Try.func21 (by kernel_rfl) (by kernel_rfl) (by kernel_rfl) trivial (by kernel_rfl) ref04_Key_eq
/-! downspout/downspoutref04.Pair -/
def AS_ref04_Pair : Shape := ⟨[(0, (.dat (.pair (.int .u8) (.pair (.int .u8) (.pair (.int .u8) .unit)))))], []⟩
def AZ_ref04_Pair : Shape := ⟨[(0, (.dat tapi_Pair))], []⟩
def AE_ref04_Pair : Ent := ⟨18, AS_ref04_Pair, AZ_ref04_Pair, ref04_Pair⟩
def AF_ref04_Pair : Fx := ⟨Acx, lookupG [AE_ref04_Key], fun k st => .fail, fun _ => none, 0⟩
theorem ref04_Pair_eq (s : AS_ref04_Pair.ty.den) : @Eq (Option AZ_ref04_Pair.ty.den) (evFn AF_ref04_Pair Try.f18 AS_ref04_Pair AZ_ref04_Pair s).val (ref04_Pair s) := by kernel_rfl
theorem ref04_Pair_hG : GSound Try.prog AF_ref04_Pair.Γ := ents_sound ⟨ref04_Key_ok, trivial⟩
theorem ref04_Pair_ok : EntOK Try.prog AE_ref04_Pair :=
  fun_sound (F := AF_ref04_Pair) Atab ref04_Pair_hG Amixed (fn := Try.f18) (m := []) Try.func18 (by kernel_rfl) (by kernel_rfl) (by kernel_rfl) trivial (by kernel_rfl) ref04_Pair_eq
/-! downspout/downspoutref04.Put -/
def AL_ref04_Put_0 : Lp := ⟨⟨[(0, (.dat (.list tapi_Pair))), (3, (.ptr 0 tapi_Pair 0 [])), (5, (.own tapi_Pair 1)), (6, (.dat .bool)), (7, (.dat (.int .i64)))], [.box 45 tapi_Pair (.dat tapi_Pair), .arr 45 tapi_Pair false]⟩, (.exit 0), ⟨[(3, (.ptr 0 tapi_Pair 0 [])), (5, (.own tapi_Pair 1)), (6, (.dat .bool))], [.box 45 tapi_Pair (.dat tapi_Pair), .arr 45 tapi_Pair false]⟩, .nrm, ⟨[], []⟩⟩
def AS_ref04_Put : Shape := ⟨[(0, (.dat (.list tapi_Pair))), (1, (.dat tapi_Pair))], []⟩
def AZ_ref04_Put : Shape := ⟨[(0, (.dat (.list tapi_Pair)))], []⟩
def AE_ref04_Put : Ent := ⟨17, AS_ref04_Put, AZ_ref04_Put, ref04_Put⟩
def AF_ref04_Put : Fx := ⟨Acx, lookupG [], fun k st => bif Nat.beq k 0 then AL_ref04_Put_0.go ref04_Put_l0 0 st else .fail, fun _ => none, 0⟩
theorem ref04_Put_b0_eq (s : AL_ref04_Put_0.S.ty.den) : @Eq (Option (AL_ref04_Put_0.S.ty.den ⊕ AL_ref04_Put_0.Out)) (AL_ref04_Put_0.body AF_ref04_Put (loopAt (bodyOf Try.f17) 0) 0 s).val (ref04_Put_b0 s) := by kernel_rfl
theorem ref04_Put_eq (s : AS_ref04_Put.ty.den) : @Eq (Option AZ_ref04_Put.ty.den) (evFn AF_ref04_Put Try.f17 AS_ref04_Put AZ_ref04_Put s).val (ref04_Put s) := by kernel_rfl
theorem ref04_Put_hG : GSound Try.prog AF_ref04_Put.Γ := ents_sound trivial
theorem ref04_Put_la0 : LamOK Try.prog AF_ref04_Put Try.f17.ntmps 0 (loopAt (bodyOf Try.f17) 0) :=
  lam_sound Atab ref04_Put_hG Amixed (L := AL_ref04_Put_0) (f := ref04_Put_l0) (b := ref04_Put_b0) (m := []) (fun _ => rfl) (by kernel_rfl) (by kernel_rfl) trivial (by kernel_rfl) ref04_Put_b0_eq
theorem ref04_Put_ok : EntOK Try.prog AE_ref04_Put :=
  fun_sound (F := AF_ref04_Put) Atab ref04_Put_hG Amixed (fn := Try.f17) (m := [(0, loopAt (bodyOf Try.f17) 0)]) Try.func17 (by kernel_rfl) (by kernel_rfl) (by kernel_rfl) ⟨ref04_Put_la0, trivial⟩ (by kernel_rfl) ref04_Put_eq
/-! downspout/downspoutref04.Made -/
def AL_ref04_Made_0 : Lp := ⟨⟨[(0, (.dat (.list (.pair (.int .u8) (.pair (.int .u8) (.pair (.int .u8) .unit)))))), (3, (.dat (.list tapi_Pair))), (4, (.dat (.int .i64)))], []⟩, (.exit 0), ⟨[(3, (.dat (.list tapi_Pair)))], []⟩, .nrm, ⟨[], []⟩⟩
def AS_ref04_Made : Shape := ⟨[(0, (.dat (.list (.pair (.int .u8) (.pair (.int .u8) (.pair (.int .u8) .unit))))))], []⟩
def AZ_ref04_Made : Shape := ⟨[(0, (.dat (.list tapi_Pair)))], []⟩
def AE_ref04_Made : Ent := ⟨7, AS_ref04_Made, AZ_ref04_Made, ref04_Made⟩
def AF_ref04_Made : Fx := ⟨Acx, lookupG [AE_ref04_Pair, AE_ref04_Put], fun k st => bif Nat.beq k 0 then AL_ref04_Made_0.go ref04_Made_l0 0 st else .fail, fun _ => none, 0⟩
theorem ref04_Made_b0_eq (s : AL_ref04_Made_0.S.ty.den) : @Eq (Option (AL_ref04_Made_0.S.ty.den ⊕ AL_ref04_Made_0.Out)) (AL_ref04_Made_0.body AF_ref04_Made (loopAt (bodyOf Try.f7) 0) 0 s).val (ref04_Made_b0 s) := by kernel_rfl
theorem ref04_Made_eq (s : AS_ref04_Made.ty.den) : @Eq (Option AZ_ref04_Made.ty.den) (evFn AF_ref04_Made Try.f7 AS_ref04_Made AZ_ref04_Made s).val (ref04_Made s) := by kernel_rfl
theorem ref04_Made_hG : GSound Try.prog AF_ref04_Made.Γ := ents_sound ⟨ref04_Pair_ok, ref04_Put_ok, trivial⟩
theorem ref04_Made_la0 : LamOK Try.prog AF_ref04_Made Try.f7.ntmps 0 (loopAt (bodyOf Try.f7) 0) :=
  lam_sound Atab ref04_Made_hG Amixed (L := AL_ref04_Made_0) (f := ref04_Made_l0) (b := ref04_Made_b0) (m := []) (fun _ => rfl) (by kernel_rfl) (by kernel_rfl) trivial (by kernel_rfl) ref04_Made_b0_eq
theorem ref04_Made_ok : EntOK Try.prog AE_ref04_Made :=
  fun_sound (F := AF_ref04_Made) Atab ref04_Made_hG Amixed (fn := Try.f7) (m := [(0, loopAt (bodyOf Try.f7) 0)]) Try.func7 (by kernel_rfl) (by kernel_rfl) (by kernel_rfl) ⟨ref04_Made_la0, trivial⟩ (by kernel_rfl) ref04_Made_eq
/-! downspout/downspoutlaw13.SplitPieces -/
def AL_law13_SplitPieces_0 : Lp := ⟨⟨[(5, (.dat .bool)), (6, (.dat (.list tapi_Pair))), (7, (.dat (.int .i64))), (8, (.dat (.list (.list tapi_Pair)))), (9, (.own tapi_Pair 0)), (10, (.dat (.int .i64)))], [.arr 45 tapi_Pair false]⟩, .ret, ⟨[(4, (.dat .bool))], []⟩, (.exit 0), ⟨[(5, (.dat .bool)), (6, (.dat (.list tapi_Pair))), (9, (.own tapi_Pair 0))], [.arr 45 tapi_Pair false]⟩⟩
def AS_law13_SplitPieces : Shape := ⟨[(0, (.dat (.list (.pair (.int .u8) (.pair (.int .u8) (.pair (.int .u8) .unit)))))), (1, (.dat (.int .u8)))], []⟩
def AZ_law13_SplitPieces : Shape := ⟨[(0, (.dat .bool))], []⟩
def AE_law13_SplitPieces : Ent := ⟨3, AS_law13_SplitPieces, AZ_law13_SplitPieces, law13_SplitPieces⟩
def AF_law13_SplitPieces : Fx := ⟨Acx, lookupG [AE_split_Pieces, AE_ref04_Same, AE_law13_sanity, AE_ref04_Made], fun k st => bif Nat.beq k 0 then AL_law13_SplitPieces_0.go law13_SplitPieces_l0 0 st else .fail, fun _ => none, 0⟩
theorem law13_SplitPieces_b0_eq (s : AL_law13_SplitPieces_0.S.ty.den) : @Eq (Option (AL_law13_SplitPieces_0.S.ty.den ⊕ AL_law13_SplitPieces_0.Out)) (AL_law13_SplitPieces_0.body AF_law13_SplitPieces (loopAt (bodyOf Try.f3) 0) 0 s).val (law13_SplitPieces_b0 s) := by kernel_rfl
theorem law13_SplitPieces_eq (s : AS_law13_SplitPieces.ty.den) : @Eq (Option AZ_law13_SplitPieces.ty.den) (evFn AF_law13_SplitPieces Try.f3 AS_law13_SplitPieces AZ_law13_SplitPieces s).val (law13_SplitPieces s) := by kernel_rfl
theorem law13_SplitPieces_hG : GSound Try.prog AF_law13_SplitPieces.Γ := ents_sound ⟨split_Pieces_ok, ref04_Same_ok, law13_sanity_ok, ref04_Made_ok, trivial⟩
theorem law13_SplitPieces_la0 : LamOK Try.prog AF_law13_SplitPieces Try.f3.ntmps 0 (loopAt (bodyOf Try.f3) 0) :=
  lam_sound Atab law13_SplitPieces_hG Amixed (L := AL_law13_SplitPieces_0) (f := law13_SplitPieces_l0) (b := law13_SplitPieces_b0) (m := []) (fun _ => rfl) (by kernel_rfl) (by kernel_rfl) trivial (by kernel_rfl) law13_SplitPieces_b0_eq
theorem law13_SplitPieces_ok : EntOK Try.prog AE_law13_SplitPieces :=
  fun_sound (F := AF_law13_SplitPieces) Atab law13_SplitPieces_hG Amixed (fn := Try.f3) (m := [(0, loopAt (bodyOf Try.f3) 0)]) Try.func3 (by kernel_rfl) (by kernel_rfl) (by kernel_rfl) ⟨law13_SplitPieces_la0, trivial⟩ (by kernel_rfl) law13_SplitPieces_eq


end D
