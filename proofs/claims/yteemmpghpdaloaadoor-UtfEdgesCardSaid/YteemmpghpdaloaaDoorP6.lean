/- utf.Step of any bytes; utf.Put. -/
import Derived.Test.YteemmpghpdaloaaDoorP5
set_option linter.unusedVariables false
set_option linter.unusedSimpArgs false
set_option maxRecDepth 10000
namespace Go.Proofs.YteemmpghpdaloaaDoor
open Go.RowKit

theorem ustep_nil (b : Int) : ustep [] b = ustepA [] b := by simp [ustep, ubeg]
theorem step_any {sz : Nat} {k : SK} {b : Int} {l : List Int} (hs : sz = 1 ∨ l = []) (hk : inK .u8 l) (hl : l.length ≤ 1000000) (hb : 0 ≤ b ∧ b ≤ 255) :
    PCalls PG 17 [.sl sz (intRows .u8 l) k, .int .u8 b] fun n r os => r = .tup [.sl 1 (intRows .u8 (ustep l b).1) .any, .sl 1 (intRows .i32 (ustep l b).2) .any] ∧ os = [] := by
  refine PCalls.any_arg (i := 0) rfl (fun h => ?_) ?_
  · have hn : l = [] := by simpa [intRows] using h
    subst hn
    rw [ustep_nil]
    exact step0_P hb
  · exact step_P hs hk hl hb
def F_step : List DV → Option FSpec
  | [.sl sz rows k, .int .u8 b] => some ⟨isInts .u8 (.sl sz rows k) ∧ rows.length ≤ 1000000 ∧ 0 ≤ b ∧ b ≤ 255, fun n => (.tup [.sl 1 (intRows .u8 (ustep (ints rows) b).1) .any, .sl 1 (intRows .i32 (ustep (ints rows) b).2) .any], [])⟩
  | _ => none
theorem F_step_1 (sz : Nat) (rows : List (List DV)) (k : SK) (b : Int) : F_step [.sl sz rows k, .int .u8 b] = some ⟨isInts .u8 (.sl sz rows k) ∧ rows.length ≤ 1000000 ∧ 0 ≤ b ∧ b ≤ 255, fun n => (.tup [.sl 1 (intRows .u8 (ustep (ints rows) b).1) .any, .sl 1 (intRows .i32 (ustep (ints rows) b).2) .any], [])⟩ := nrfl _
theorem fstep_ok (args : List DV) (s : FSpec) (hs : F_step args = some s) (hp : s.pre) : PCalls PG 17 args fun n r os => r = (s.res n).1 ∧ os = (s.res n).2 := by
  unfold F_step at hs
  split at hs
  · rename_i sz rows k b
    obtain rfl := Option.some.inj hs
    obtain ⟨⟨h1, h2, h3⟩, h4, h5, h6⟩ := hp
    have h7 : (ints rows).length = rows.length := by simp [ints]
    have := step_any (sz := sz) (k := k) (l := ints rows) (h2.imp id fun h => by simp [h, ints]) h3 (by omega) ⟨h5, h6⟩
    rw [← h1] at this
    exact this
  · cases hs

def F_appNon : List DV → Option FSpec
  | [.sl sz [] .nil, .int .i32 r] => some ⟨(-2147483648 ≤ r ∧ r ≤ 2147483647) ∧ ¬ (0 ≤ r ∧ r ≤ 127), fun n => (.own n 0 (enc r).length, [some (.arr 1 (intRows .u8 (enc r)))])⟩
  | _ => none
theorem F_appNon_1 (sz : Nat) (r : Int) : F_appNon [.sl sz [] .nil, .int .i32 r] = some ⟨(-2147483648 ≤ r ∧ r ≤ 2147483647) ∧ ¬ (0 ≤ r ∧ r ≤ 127), fun n => (.own n 0 (enc r).length, [some (.arr 1 (intRows .u8 (enc r)))])⟩ := nrfl _
theorem appNon_ok (args : List DV) (s : FSpec) (hs : F_appNon args = some s) (hp : s.pre) : PCalls PG 50 args fun n r os => r = (s.res n).1 ∧ os = (s.res n).2 := by
  unfold F_appNon at hs
  split at hs
  · obtain rfl := Option.some.inj hs
    exact appNon_P hp.1 hp.2
  · cases hs
def T5 : List (Nat × (List DV → Option FSpec)) := (50, F_appNon) :: (17, F_step) :: T3
theorem T5_ok : FOk PG (tab T5) := FOk.cons (FOk.cons T3_ok fstep_ok) appNon_ok

theorem appRune_P {sz : Nat} {r : Int} (hr : -2147483648 ≤ r ∧ r ≤ 2147483647) :
    PCalls PG 39 [.sl sz [] .nil, .int .i32 r] fun n d os => d = .own n 0 (enc r).length ∧ os = [some (.arr 1 (intRows .u8 (enc r)))] := by
  refine PCalls.by_fn (res := fun n => (.own n 0 (enc r).length, [some (.arr 1 (intRows .u8 (enc r)))])) T5_ok rc_appRune_ok (by simp [rc_appRune]) fun n => ?_
  unfold rc_appRune T5
  dsimp only
  simp -implicitDefEqProofs only [tab_cons, F_appNon_1, ↓opsWp_nil, ↓opsWp_cons, ↓stV_build, ↓stV_mkrow, ↓stV_call, ↓stV_mov, ↓stV_pick, ↓stV_box, ↓stV_alloc, ↓stV_load, ↓stV_store, ↓stV_nilck, ↓stV_bin, ↓stV_eqB, ↓stV_eqNil, ↓stV_un, ↓stV_i2i, ↓stV_b2s, ↓stV_s2b, ↓stV_s2s, ↓stV_lit, ↓stV_slice, ↓stV_sliceS, ↓stV_faddr, ↓stV_fld, ↓stV_iaddr, ↓stV_iaddrA, ↓stV_idxS, ↓stV_ext, ↓stV_len, ↓stV_lenS, ↓stV_append, ↓stV_mm, ↓stV_mkslice, ↓opsWp_guard, ↓ot_done, ↓ot_alt, ↓ot_op, ↓ot_guard, ↓ot_take, ↓ot_take0, ↓rc_skip, ↓rc_reg, ↓rc_regD, ↓rc_seq, ↓rc_cond, ↓rc_blk, ↓rc_loop, ↓rc_ext, ↓rc_ret, ↓thenQ_n, ↓thenQ_r, ↓thenQ_e, ↓inBlk_n, ↓inBlk_r, ↓inBlk_e, ↓finQ_n, ↓finQ_r, resOf_1, resOf_2, resOf_3, resT, resC, ev_t, ev_c, get_mk, put_some, put_none, know_mk, knows_t, knows_c, cut_mk, nx_f, nx_n, nx_t, ↓bindB_bool, ↓bindO_some, ↓bindO_none, ↓bindO_map, ↓bindO_bind, ↓bindO_ite, ↓cnd_true, ↓cnd_false, cnd_dec, cnd_not, rvl_mov, rvl_pick, rvl_box, rvl_alloc, rvl_build, rvl_mkrow, rvl_load, rvl_store, rvl_nilck, rvl_bin, rvl_eqB, rvl_eqNil, rvl_un, rvl_i2i, rvl_b2s, rvl_s2b, rvl_s2s, rvl_lit, rvl_slice, natO_none, natO_some, rvl_sliceS, rvl_faddr, rvl_fld, rvl_iaddr, rvl_iaddrA, rvl_idxS, rvl_ext, rvl_len, rvl_lenS, rvl_append, rvl_mm, rvl_mkslice, rowsOf_sl, rowsOf_own, rowsOf_str, Option.map_some, Option.map_none, Option.bind_some, Option.bind_none, if_true, if_false, reduceCtorEq, beq_true, beq_false, Bool.not_true, Bool.not_false, BEq.rfl, Bool.true_beq, Bool.false_beq, and_true, true_and, and_self, decide_true, decide_false, List.length_cons, List.length_nil, List.all_cons, List.all_nil, Bool.and_true, Bool.and_self, List.getElem?_cons_zero, List.getElem?_cons_succ, List.set_cons_zero, List.set_cons_succ, List.nil_append, List.cons_append, List.append_nil, List.map_cons, List.map_nil, not_true_eq_false, not_false_eq_true, false_implies, true_implies, implies_true, goSt_eq, ↓callV_some, freeze_mk, frzO_arr, initEnv_nil, initEnv_cons, look_nil, look_cons, ins_nil, ins_cons, rep_nil, rep_cons, memN_nil, memN_cons, cutE_nil, cutE_cons, buildV_nil, buildV_cons, mkrowV_nil, mkrowV_cons, binV_add, binV_sub, binV_mul, binV_quo, binV_rem, binV_and, binV_or, binV_xor, binV_andNot, binV_eql, binV_neq, binV_lss, binV_leq, binV_gtr, binV_geq, binV_shl, binV_shr, binS_add, binS_eql, binS_neq, binS_lss, binS_leq, binS_gtr, binS_geq, unOf_neg, unOf_xor, unOf_not, nilV_nil, nilV_nonnil, nilV_any, nilV_zero, cells_int, one_int, cells_bool, one_bool, cells_str, one_str, cells_sl, one_sl, cells_own, one_own, cells_ptr, one_ptr, cells_rp, one_rp, cells_agg, rowAt_f, rowAt_t, rowSet_eq, rows_box, rows_arr, setRow_box, setRow_arr, freezes_nil, freezes_cons, ownIds_own, ownIds_sl, ownIds_agg, ownL_nil, ownL_int, frz0_int, frzT_int, ownL_bool, frz0_bool, frzT_bool, ownL_str, frz0_str, frzT_str, ownL_sl, frz0_sl, frzT_sl, ownL_ptr, frz0_ptr, frzT_ptr, ownL_rp, frz0_rp, frzT_rp, ownL_own, frz0_own, frzT_own, frzT_undef, frzT_agg, frzT_tup, obfrz_box, obfrz_arr, List.take_succ_cons, List.take_zero, List.take_nil, List.drop_succ_cons, List.drop_zero, List.drop_nil, ↓reduceIte, Nat.reduceLT, Nat.reduceLeDiff, Nat.reduceEqDiff, Nat.reduceAdd, Nat.reduceSub, Nat.reduceMul, Int.reduceLT, Int.reduceLE, Int.reduceEq, Int.reduceToNat, Int.reduceAdd, Int.reduceSub, Int.reduceNeg, List.reduceReplicate, List.replicate_zero, List.replicate_succ, ne_eq, ↓bindG_bool, ↓bindG_no, ids0_int, idsA_int, idsT_int, can0_int, canA_int, canT_int, cl0_int, clA_int, clT_int, ids0_bool, idsA_bool, idsT_bool, can0_bool, canA_bool, canT_bool, cl0_bool, clA_bool, clT_bool, ids0_str, idsA_str, idsT_str, can0_str, canA_str, canT_str, cl0_str, clA_str, clT_str, ids0_sl, idsA_sl, idsT_sl, can0_sl, canA_sl, canT_sl, cl0_sl, clA_sl, clT_sl, ids0_own, idsA_own, idsT_own, can0_own, canA_own, canT_own, cl0_own, clA_own, clT_own, ids0_ptr, idsA_ptr, idsT_ptr, can0_ptr, canA_ptr, canT_ptr, cl0_ptr, clA_ptr, clT_ptr, idsA_agg, idsT_agg, idsT_tup, canA_agg, canT_agg, canT_tup, clA_agg, clT_agg, clT_tup, pos_nil, pos_cons, clOb_arr, clOb_box, goIds_nil, goIds_cons, retV_eq, ClRows_nil_eq, ClRows_int_eq, ClRows_one_eq, Cl_int_eq, Cl_bool_eq, Cl_str_eq, wk_mk, envWk_nil, envWk_cons, objsWk_self, objsWk_nil, objsWk_none, objsWk_some, RO_len, RO_get, RO_get0, RO_set, RO_set0, List.flatMap_cons, List.flatMap_nil, List.length_replicate, List.length_append, Nat.le_refl, Nat.le_add_right, Nat.add_assoc, List.append_assoc, intRows_length, intRows_get, intRows_append, intRows_nil, intRows_take, intRows_drop, rowsBytes_int, isInts_sl, isInts_nil, intsD_sl, intsD_nil, or_true, true_or, or_false, false_or, and_false, false_and, exists_eq_left, exists_eq_left', Option.some.injEq, DV.int.injEq, DV.bool.injEq, DV.sl.injEq, DV.own.injEq, DV.tup.injEq, List.cons.injEq, Ob.arr.injEq, Ob.box.injEq, ↓bindO_getI, ↓bindO_getU, Option.map_map, Int.toNat_natCast, Int.toNat_zero, Nat.reducePow, Int.toNat_one, Int.reduceMul, Nat.mul_one, Nat.zero_add, Nat.add_zero, Function.comp_apply, allP_nil, allP_cons, ndup_nil, ndup_cons, notIn_nil, notIn_cons, ClRows_cons, wkT_tup, wkT_agg, wkA_agg, wkL_nil, wkL_cons, wkT_sl, wkA_sl, wk0_sl, wkT_int, wkA_int, wk0_int, wkT_bool, wkA_bool, wk0_bool, wkT_str, wkA_str, wk0_str, wkT_own, wkA_own, wk0_own, wkT_ptr, wkA_ptr, intRows_fold1, intRows_foldc, List.map_append, List.map_replicate, intRows_set, Int.cast_ofNat_Int, Nat.left_eq_add, Nat.add_eq_left, Nat.add_left_cancel_iff, addId_nil, addId_cons, addIds_nil, addIds_cons, idsE_nil, idsE_cons, canE_nil, canE_cons, ↓canGo_nil, ↓canGo_cons, canI_eq, canS_mk, idsT_rp, idsT_undef, canT_rp, objsWk_pre]
  have hu : IntKind.u32.wrap r = r % 4294967296 := IntKind.wrap_u32 r
  have h8 : IntKind.u8.wrap r = r % 256 := IntKind.wrap_u8 r
  refine ⟨fun h => ?_, fun h => ⟨hr, ?_⟩⟩
  · have h1 : 0 ≤ r ∧ r ≤ 127 := by omega
    have : enc r = [r] := by unfold enc; rw [if_pos h1]
    rw [this, h8, show r % 256 = r by omega]
    exact ⟨rfl, rfl⟩
  · omega
def F_appRune : List DV → Option FSpec
  | [.sl sz [] .nil, .int .i32 r] => some ⟨-2147483648 ≤ r ∧ r ≤ 2147483647, fun n => (.own n 0 (enc r).length, [some (.arr 1 (intRows .u8 (enc r)))])⟩
  | _ => none
theorem F_appRune_1 (sz : Nat) (r : Int) : F_appRune [.sl sz [] .nil, .int .i32 r] = some ⟨-2147483648 ≤ r ∧ r ≤ 2147483647, fun n => (.own n 0 (enc r).length, [some (.arr 1 (intRows .u8 (enc r)))])⟩ := nrfl _
theorem appRune_ok (args : List DV) (s : FSpec) (hs : F_appRune args = some s) (hp : s.pre) : PCalls PG 39 args fun n r os => r = (s.res n).1 ∧ os = (s.res n).2 := by
  unfold F_appRune at hs
  split at hs
  · obtain rfl := Option.some.inj hs
    exact appRune_P hp
  · cases hs
def T6 : List (Nat × (List DV → Option FSpec)) := (39, F_appRune) :: T5
theorem T6_ok : FOk PG (tab T6) := FOk.cons T5_ok appRune_ok
theorem put_P {r : Int} (hr : -2147483648 ≤ r ∧ r ≤ 2147483647) :
    PCalls PG 21 [.int .i32 r] fun n d os => d = .own n 0 (enc r).length ∧ os = [some (.arr 1 (intRows .u8 (enc r)))] := by
  refine PCalls.by_fn (res := fun n => (.own n 0 (enc r).length, [some (.arr 1 (intRows .u8 (enc r)))])) T6_ok rc_uput_ok (by simp [rc_uput]) fun n => ?_
  unfold rc_uput T6
  dsimp only
  simp -implicitDefEqProofs only [tab_cons, F_appRune_1, ↓opsWp_nil, ↓opsWp_cons, ↓stV_build, ↓stV_mkrow, ↓stV_call, ↓stV_mov, ↓stV_pick, ↓stV_box, ↓stV_alloc, ↓stV_load, ↓stV_store, ↓stV_nilck, ↓stV_bin, ↓stV_eqB, ↓stV_eqNil, ↓stV_un, ↓stV_i2i, ↓stV_b2s, ↓stV_s2b, ↓stV_s2s, ↓stV_lit, ↓stV_slice, ↓stV_sliceS, ↓stV_faddr, ↓stV_fld, ↓stV_iaddr, ↓stV_iaddrA, ↓stV_idxS, ↓stV_ext, ↓stV_len, ↓stV_lenS, ↓stV_append, ↓stV_mm, ↓stV_mkslice, ↓opsWp_guard, ↓ot_done, ↓ot_alt, ↓ot_op, ↓ot_guard, ↓ot_take, ↓ot_take0, ↓rc_skip, ↓rc_reg, ↓rc_regD, ↓rc_seq, ↓rc_cond, ↓rc_blk, ↓rc_loop, ↓rc_ext, ↓rc_ret, ↓thenQ_n, ↓thenQ_r, ↓thenQ_e, ↓inBlk_n, ↓inBlk_r, ↓inBlk_e, ↓finQ_n, ↓finQ_r, resOf_1, resOf_2, resOf_3, resT, resC, ev_t, ev_c, get_mk, put_some, put_none, know_mk, knows_t, knows_c, cut_mk, nx_f, nx_n, nx_t, ↓bindB_bool, ↓bindO_some, ↓bindO_none, ↓bindO_map, ↓bindO_bind, ↓bindO_ite, ↓cnd_true, ↓cnd_false, cnd_dec, cnd_not, rvl_mov, rvl_pick, rvl_box, rvl_alloc, rvl_build, rvl_mkrow, rvl_load, rvl_store, rvl_nilck, rvl_bin, rvl_eqB, rvl_eqNil, rvl_un, rvl_i2i, rvl_b2s, rvl_s2b, rvl_s2s, rvl_lit, rvl_slice, natO_none, natO_some, rvl_sliceS, rvl_faddr, rvl_fld, rvl_iaddr, rvl_iaddrA, rvl_idxS, rvl_ext, rvl_len, rvl_lenS, rvl_append, rvl_mm, rvl_mkslice, rowsOf_sl, rowsOf_own, rowsOf_str, Option.map_some, Option.map_none, Option.bind_some, Option.bind_none, if_true, if_false, reduceCtorEq, beq_true, beq_false, Bool.not_true, Bool.not_false, BEq.rfl, Bool.true_beq, Bool.false_beq, and_true, true_and, and_self, decide_true, decide_false, List.length_cons, List.length_nil, List.all_cons, List.all_nil, Bool.and_true, Bool.and_self, List.getElem?_cons_zero, List.getElem?_cons_succ, List.set_cons_zero, List.set_cons_succ, List.nil_append, List.cons_append, List.append_nil, List.map_cons, List.map_nil, not_true_eq_false, not_false_eq_true, false_implies, true_implies, implies_true, goSt_eq, ↓callV_some, freeze_mk, frzO_arr, initEnv_nil, initEnv_cons, look_nil, look_cons, ins_nil, ins_cons, rep_nil, rep_cons, memN_nil, memN_cons, cutE_nil, cutE_cons, buildV_nil, buildV_cons, mkrowV_nil, mkrowV_cons, binV_add, binV_sub, binV_mul, binV_quo, binV_rem, binV_and, binV_or, binV_xor, binV_andNot, binV_eql, binV_neq, binV_lss, binV_leq, binV_gtr, binV_geq, binV_shl, binV_shr, binS_add, binS_eql, binS_neq, binS_lss, binS_leq, binS_gtr, binS_geq, unOf_neg, unOf_xor, unOf_not, nilV_nil, nilV_nonnil, nilV_any, nilV_zero, cells_int, one_int, cells_bool, one_bool, cells_str, one_str, cells_sl, one_sl, cells_own, one_own, cells_ptr, one_ptr, cells_rp, one_rp, cells_agg, rowAt_f, rowAt_t, rowSet_eq, rows_box, rows_arr, setRow_box, setRow_arr, freezes_nil, freezes_cons, ownIds_own, ownIds_sl, ownIds_agg, ownL_nil, ownL_int, frz0_int, frzT_int, ownL_bool, frz0_bool, frzT_bool, ownL_str, frz0_str, frzT_str, ownL_sl, frz0_sl, frzT_sl, ownL_ptr, frz0_ptr, frzT_ptr, ownL_rp, frz0_rp, frzT_rp, ownL_own, frz0_own, frzT_own, frzT_undef, frzT_agg, frzT_tup, obfrz_box, obfrz_arr, List.take_succ_cons, List.take_zero, List.take_nil, List.drop_succ_cons, List.drop_zero, List.drop_nil, ↓reduceIte, Nat.reduceLT, Nat.reduceLeDiff, Nat.reduceEqDiff, Nat.reduceAdd, Nat.reduceSub, Nat.reduceMul, Int.reduceLT, Int.reduceLE, Int.reduceEq, Int.reduceToNat, Int.reduceAdd, Int.reduceSub, Int.reduceNeg, List.reduceReplicate, List.replicate_zero, List.replicate_succ, ne_eq, ↓bindG_bool, ↓bindG_no, ids0_int, idsA_int, idsT_int, can0_int, canA_int, canT_int, cl0_int, clA_int, clT_int, ids0_bool, idsA_bool, idsT_bool, can0_bool, canA_bool, canT_bool, cl0_bool, clA_bool, clT_bool, ids0_str, idsA_str, idsT_str, can0_str, canA_str, canT_str, cl0_str, clA_str, clT_str, ids0_sl, idsA_sl, idsT_sl, can0_sl, canA_sl, canT_sl, cl0_sl, clA_sl, clT_sl, ids0_own, idsA_own, idsT_own, can0_own, canA_own, canT_own, cl0_own, clA_own, clT_own, ids0_ptr, idsA_ptr, idsT_ptr, can0_ptr, canA_ptr, canT_ptr, cl0_ptr, clA_ptr, clT_ptr, idsA_agg, idsT_agg, idsT_tup, canA_agg, canT_agg, canT_tup, clA_agg, clT_agg, clT_tup, pos_nil, pos_cons, clOb_arr, clOb_box, goIds_nil, goIds_cons, retV_eq, ClRows_nil_eq, ClRows_int_eq, ClRows_one_eq, Cl_int_eq, Cl_bool_eq, Cl_str_eq, wk_mk, envWk_nil, envWk_cons, objsWk_self, objsWk_nil, objsWk_none, objsWk_some, RO_len, RO_get, RO_get0, RO_set, RO_set0, List.flatMap_cons, List.flatMap_nil, List.length_replicate, List.length_append, Nat.le_refl, Nat.le_add_right, Nat.add_assoc, List.append_assoc, intRows_length, intRows_get, intRows_append, intRows_nil, intRows_take, intRows_drop, rowsBytes_int, isInts_sl, isInts_nil, intsD_sl, intsD_nil, or_true, true_or, or_false, false_or, and_false, false_and, exists_eq_left, exists_eq_left', Option.some.injEq, DV.int.injEq, DV.bool.injEq, DV.sl.injEq, DV.own.injEq, DV.tup.injEq, List.cons.injEq, Ob.arr.injEq, Ob.box.injEq, ↓bindO_getI, ↓bindO_getU, Option.map_map, Int.toNat_natCast, Int.toNat_zero, Nat.reducePow, Int.toNat_one, Int.reduceMul, Nat.mul_one, Nat.zero_add, Nat.add_zero, Function.comp_apply, allP_nil, allP_cons, ndup_nil, ndup_cons, notIn_nil, notIn_cons, ClRows_cons, wkT_tup, wkT_agg, wkA_agg, wkL_nil, wkL_cons, wkT_sl, wkA_sl, wk0_sl, wkT_int, wkA_int, wk0_int, wkT_bool, wkA_bool, wk0_bool, wkT_str, wkA_str, wk0_str, wkT_own, wkA_own, wk0_own, wkT_ptr, wkA_ptr, intRows_fold1, intRows_foldc, List.map_append, List.map_replicate, intRows_set, Int.cast_ofNat_Int, Nat.left_eq_add, Nat.add_eq_left, Nat.add_left_cancel_iff, addId_nil, addId_cons, addIds_nil, addIds_cons, idsE_nil, idsE_cons, canE_nil, canE_cons, ↓canGo_nil, ↓canGo_cons, canI_eq, canS_mk, idsT_rp, idsT_undef, canT_rp, objsWk_pre]
  exact hr

end Go.Proofs.YteemmpghpdaloaaDoor
