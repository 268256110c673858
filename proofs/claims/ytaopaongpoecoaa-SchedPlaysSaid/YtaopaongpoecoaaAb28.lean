/- All of simp's own lemmas under two names. -/
import Derived.Test.YtaopaongpoecoaaAb27
set_option linter.unusedVariables false
namespace Go.Proofs.Ytaopaongpoecoaa
open Go.RowKit
theorem frzA_int (o sz : Nat) (rows : List (List DV)) (k : IntKind) (n : Int) : DV.frzA o sz rows (.int k n) = .int k n := nrfl _
theorem frzA_bool (o sz : Nat) (rows : List (List DV)) (b : Bool) : DV.frzA o sz rows (.bool b) = .bool b := nrfl _
theorem frzA_str (o sz : Nat) (rows : List (List DV)) (s : List UInt8) : DV.frzA o sz rows (.str s) = .str s := nrfl _
theorem frzA_sl (o sz : Nat) (rows : List (List DV)) (s : Nat) (r : List (List DV)) (k : SK) : DV.frzA o sz rows (.sl s r k) = .sl s r k := nrfl _
theorem frzA_own (o sz : Nat) (rows : List (List DV)) (o' off n : Nat) : DV.frzA o sz rows (.own o' off n) = DV.frz0 o sz rows (.own o' off n) := nrfl _
theorem frzA_ptr (o sz : Nat) (rows : List (List DV)) (o' i j : Nat) : DV.frzA o sz rows (.ptr o' i j) = .ptr o' i j := nrfl _
theorem frzA_rp (o sz : Nat) (rows : List (List DV)) (r : List DV) (j : Nat) : DV.frzA o sz rows (.rp r j) = .rp r j := nrfl _
theorem frzA_undef (o sz : Nat) (rows : List (List DV)) : DV.frzA o sz rows .undef = .undef := nrfl _
theorem frzA_agg (o sz : Nat) (rows : List (List DV)) (cs : List DV) : DV.frzA o sz rows (.agg cs) = .agg (cs.map (DV.frz0 o sz rows)) := nrfl _
theorem vcA7 : type_of% (
  And.intro @closeB_nil <| And.intro @closeB_cons <| And.intro @boxIds_box <| And.intro @boxIds_arr <| And.intro @boxIds_none <| And.intro @canOb_box <| And.intro @canOb_arr <| And.intro @inL_nil <| And.intro @inL_cons <| And.intro @allIn_nil <| And.intro @allIn_cons <| And.intro @obIds_box <| And.intro @obIds_arr <| And.intro @app_o <| And.intro @app_h <| And.intro @frzA_int <| And.intro @frzA_bool <| And.intro @frzA_str <| And.intro @frzA_sl <| And.intro @frzA_own <| And.intro @frzA_ptr <| And.intro @frzA_rp <| And.intro @frzA_undef <| @frzA_agg) :=
  And.intro @closeB_nil <| And.intro @closeB_cons <| And.intro @boxIds_box <| And.intro @boxIds_arr <| And.intro @boxIds_none <| And.intro @canOb_box <| And.intro @canOb_arr <| And.intro @inL_nil <| And.intro @inL_cons <| And.intro @allIn_nil <| And.intro @allIn_cons <| And.intro @obIds_box <| And.intro @obIds_arr <| And.intro @app_o <| And.intro @app_h <| And.intro @frzA_int <| And.intro @frzA_bool <| And.intro @frzA_str <| And.intro @frzA_sl <| And.intro @frzA_own <| And.intro @frzA_ptr <| And.intro @frzA_rp <| And.intro @frzA_undef <| @frzA_agg
theorem vcA1 : type_of% (
  And.intro @resOf_1 <| And.intro @resOf_2 <| And.intro @resOf_3 <| And.intro @resT <| And.intro @resC <| And.intro @ev_t <| And.intro @ev_c <| And.intro @get_mk <| And.intro @put_some <| And.intro @put_none <| And.intro @know_mk <|
  And.intro @knows_t <| And.intro @knows_c <| And.intro @cut_mk <| And.intro @nx_f <| And.intro @nx_n <| And.intro @nx_t <| And.intro @cnd_dec <| And.intro @cnd_not <| And.intro @rvl_mov <| And.intro @rvl_pick <| And.intro @rvl_box <|
  And.intro @rvl_alloc <| And.intro @rvl_build <| And.intro @rvl_mkrow <| And.intro @rvl_load <| And.intro @rvl_store <| And.intro @rvl_nilck <| And.intro @rvl_bin <| And.intro @rvl_eqB <| And.intro @rvl_eqNil <| And.intro @rvl_un <|
  And.intro @rvl_i2i <| And.intro @rvl_b2s <| And.intro @rvl_s2b <| And.intro @rvl_s2s <| And.intro @rvl_lit <| And.intro @rvl_slice <| And.intro @natO_none <| And.intro @natO_some <| And.intro @rvl_sliceS <| And.intro @rvl_faddr <|
  And.intro @rvl_fld <| And.intro @rvl_iaddr <| And.intro @rvl_iaddrA <| And.intro @rvl_idxS <| And.intro @rvl_ext <| And.intro @rvl_len <| And.intro @rvl_lenS <| And.intro @rvl_append <| And.intro @rvl_mm <| And.intro @rvl_mkslice <|
  And.intro @rowsOf_sl <| And.intro @rowsOf_own <| And.intro @rowsOf_str <| And.intro @goSt_eq <| And.intro @freeze_mk <| And.intro @frzO_arr <| And.intro @initEnv_nil <| @initEnv_cons) :=
  And.intro @resOf_1 <| And.intro @resOf_2 <| And.intro @resOf_3 <| And.intro @resT <| And.intro @resC <| And.intro @ev_t <| And.intro @ev_c <| And.intro @get_mk <| And.intro @put_some <| And.intro @put_none <| And.intro @know_mk <|
  And.intro @knows_t <| And.intro @knows_c <| And.intro @cut_mk <| And.intro @nx_f <| And.intro @nx_n <| And.intro @nx_t <| And.intro @cnd_dec <| And.intro @cnd_not <| And.intro @rvl_mov <| And.intro @rvl_pick <| And.intro @rvl_box <|
  And.intro @rvl_alloc <| And.intro @rvl_build <| And.intro @rvl_mkrow <| And.intro @rvl_load <| And.intro @rvl_store <| And.intro @rvl_nilck <| And.intro @rvl_bin <| And.intro @rvl_eqB <| And.intro @rvl_eqNil <| And.intro @rvl_un <|
  And.intro @rvl_i2i <| And.intro @rvl_b2s <| And.intro @rvl_s2b <| And.intro @rvl_s2s <| And.intro @rvl_lit <| And.intro @rvl_slice <| And.intro @natO_none <| And.intro @natO_some <| And.intro @rvl_sliceS <| And.intro @rvl_faddr <|
  And.intro @rvl_fld <| And.intro @rvl_iaddr <| And.intro @rvl_iaddrA <| And.intro @rvl_idxS <| And.intro @rvl_ext <| And.intro @rvl_len <| And.intro @rvl_lenS <| And.intro @rvl_append <| And.intro @rvl_mm <| And.intro @rvl_mkslice <|
  And.intro @rowsOf_sl <| And.intro @rowsOf_own <| And.intro @rowsOf_str <| And.intro @goSt_eq <| And.intro @freeze_mk <| And.intro @frzO_arr <| And.intro @initEnv_nil <| @initEnv_cons
theorem vcA2 : type_of% (
  And.intro @look_nil <| And.intro @look_cons <| And.intro @ins_nil <| And.intro @ins_cons <| And.intro @rep_nil <| And.intro @rep_cons <| And.intro @memN_nil <| And.intro @memN_cons <| And.intro @cutE_nil <| And.intro @cutE_cons <|
  And.intro @buildV_nil <| And.intro @buildV_cons <| And.intro @mkrowV_nil <| And.intro @mkrowV_cons <| And.intro @binV_add <| And.intro @binV_sub <| And.intro @binV_mul <| And.intro @binV_quo <| And.intro @binV_rem <|
  And.intro @binV_and <| And.intro @binV_or <| And.intro @binV_xor <| And.intro @binV_andNot <| And.intro @binV_eql <| And.intro @binV_neq <| And.intro @binV_lss <| And.intro @binV_leq <| And.intro @binV_gtr <| And.intro @binV_geq <|
  And.intro @binV_shl <| And.intro @binV_shr <| And.intro @binS_add <| And.intro @binS_eql <| And.intro @binS_neq <| And.intro @binS_lss <| And.intro @binS_leq <| And.intro @binS_gtr <| And.intro @binS_geq <| And.intro @unOf_neg <|
  And.intro @unOf_xor <| And.intro @unOf_not <| And.intro @nilV_nil <| And.intro @nilV_nonnil <| And.intro @nilV_any <| And.intro @nilV_zero <| And.intro @cells_int <| And.intro @one_int <| And.intro @cells_bool <| And.intro @one_bool <|
  And.intro @cells_str <| And.intro @one_str <| And.intro @cells_sl <| And.intro @one_sl <| And.intro @cells_own <| And.intro @one_own <| And.intro @cells_ptr <| And.intro @one_ptr <| And.intro @cells_rp <| And.intro @one_rp <| @cells_agg) :=
  And.intro @look_nil <| And.intro @look_cons <| And.intro @ins_nil <| And.intro @ins_cons <| And.intro @rep_nil <| And.intro @rep_cons <| And.intro @memN_nil <| And.intro @memN_cons <| And.intro @cutE_nil <| And.intro @cutE_cons <|
  And.intro @buildV_nil <| And.intro @buildV_cons <| And.intro @mkrowV_nil <| And.intro @mkrowV_cons <| And.intro @binV_add <| And.intro @binV_sub <| And.intro @binV_mul <| And.intro @binV_quo <| And.intro @binV_rem <|
  And.intro @binV_and <| And.intro @binV_or <| And.intro @binV_xor <| And.intro @binV_andNot <| And.intro @binV_eql <| And.intro @binV_neq <| And.intro @binV_lss <| And.intro @binV_leq <| And.intro @binV_gtr <| And.intro @binV_geq <|
  And.intro @binV_shl <| And.intro @binV_shr <| And.intro @binS_add <| And.intro @binS_eql <| And.intro @binS_neq <| And.intro @binS_lss <| And.intro @binS_leq <| And.intro @binS_gtr <| And.intro @binS_geq <| And.intro @unOf_neg <|
  And.intro @unOf_xor <| And.intro @unOf_not <| And.intro @nilV_nil <| And.intro @nilV_nonnil <| And.intro @nilV_any <| And.intro @nilV_zero <| And.intro @cells_int <| And.intro @one_int <| And.intro @cells_bool <| And.intro @one_bool <|
  And.intro @cells_str <| And.intro @one_str <| And.intro @cells_sl <| And.intro @one_sl <| And.intro @cells_own <| And.intro @one_own <| And.intro @cells_ptr <| And.intro @one_ptr <| And.intro @cells_rp <| And.intro @one_rp <| @cells_agg
theorem vcA3 : type_of% (
  And.intro @rowAt_f <| And.intro @rowAt_t <| And.intro @rowSet_eq <| And.intro @rows_box <| And.intro @rows_arr <| And.intro @setRow_box <| And.intro @setRow_arr <| And.intro @freezes_nil <| And.intro @freezes_cons <|
  And.intro @ownIds_own <| And.intro @ownIds_sl <| And.intro @ownIds_agg <| And.intro @ownL_nil <| And.intro @ownL_int <| And.intro @frz0_int <| And.intro @frzT_int <| And.intro @ownL_bool <| And.intro @frz0_bool <| And.intro @frzT_bool <|
  And.intro @ownL_str <| And.intro @frz0_str <| And.intro @frzT_str <| And.intro @ownL_sl <| And.intro @frz0_sl <| And.intro @frzT_sl <| And.intro @ownL_ptr <| And.intro @frz0_ptr <| And.intro @frzT_ptr <| And.intro @ownL_rp <|
  And.intro @frz0_rp <| And.intro @frzT_rp <| And.intro @ownL_own <| And.intro @frz0_own <| And.intro @frzT_own <| And.intro @frzT_undef <| And.intro @frzT_agg <| And.intro @frzT_tup <| And.intro @obfrz_box <| And.intro @obfrz_arr <|
  And.intro @ids0_int <| And.intro @idsA_int <| And.intro @idsT_int <| And.intro @can0_int <| And.intro @canA_int <| And.intro @canT_int <| And.intro @cl0_int <| And.intro @clA_int <| And.intro @clT_int <| And.intro @ids0_bool <|
  And.intro @idsA_bool <| And.intro @idsT_bool <| And.intro @can0_bool <| And.intro @canA_bool <| And.intro @canT_bool <| And.intro @cl0_bool <| And.intro @clA_bool <| And.intro @clT_bool <| And.intro @ids0_str <| And.intro @idsA_str <|
  @idsT_str) :=
  And.intro @rowAt_f <| And.intro @rowAt_t <| And.intro @rowSet_eq <| And.intro @rows_box <| And.intro @rows_arr <| And.intro @setRow_box <| And.intro @setRow_arr <| And.intro @freezes_nil <| And.intro @freezes_cons <|
  And.intro @ownIds_own <| And.intro @ownIds_sl <| And.intro @ownIds_agg <| And.intro @ownL_nil <| And.intro @ownL_int <| And.intro @frz0_int <| And.intro @frzT_int <| And.intro @ownL_bool <| And.intro @frz0_bool <| And.intro @frzT_bool <|
  And.intro @ownL_str <| And.intro @frz0_str <| And.intro @frzT_str <| And.intro @ownL_sl <| And.intro @frz0_sl <| And.intro @frzT_sl <| And.intro @ownL_ptr <| And.intro @frz0_ptr <| And.intro @frzT_ptr <| And.intro @ownL_rp <|
  And.intro @frz0_rp <| And.intro @frzT_rp <| And.intro @ownL_own <| And.intro @frz0_own <| And.intro @frzT_own <| And.intro @frzT_undef <| And.intro @frzT_agg <| And.intro @frzT_tup <| And.intro @obfrz_box <| And.intro @obfrz_arr <|
  And.intro @ids0_int <| And.intro @idsA_int <| And.intro @idsT_int <| And.intro @can0_int <| And.intro @canA_int <| And.intro @canT_int <| And.intro @cl0_int <| And.intro @clA_int <| And.intro @clT_int <| And.intro @ids0_bool <|
  And.intro @idsA_bool <| And.intro @idsT_bool <| And.intro @can0_bool <| And.intro @canA_bool <| And.intro @canT_bool <| And.intro @cl0_bool <| And.intro @clA_bool <| And.intro @clT_bool <| And.intro @ids0_str <| And.intro @idsA_str <|
  @idsT_str
theorem vcA4 : type_of% (
  And.intro @can0_str <| And.intro @canA_str <| And.intro @canT_str <| And.intro @cl0_str <| And.intro @clA_str <| And.intro @clT_str <| And.intro @ids0_sl <| And.intro @idsA_sl <| And.intro @idsT_sl <| And.intro @can0_sl <|
  And.intro @canA_sl <| And.intro @canT_sl <| And.intro @cl0_sl <| And.intro @clA_sl <| And.intro @clT_sl <| And.intro @ids0_own <| And.intro @idsA_own <| And.intro @idsT_own <| And.intro @can0_own <| And.intro @canA_own <|
  And.intro @canT_own <| And.intro @cl0_own <| And.intro @clA_own <| And.intro @clT_own <| And.intro @ids0_ptr <| And.intro @idsA_ptr <| And.intro @idsT_ptr <| And.intro @can0_ptr <| And.intro @canA_ptr <| And.intro @canT_ptr <|
  And.intro @cl0_ptr <| And.intro @clA_ptr <| And.intro @clT_ptr <| And.intro @idsA_agg <| And.intro @idsT_agg <| And.intro @idsT_tup <| And.intro @canA_agg <| And.intro @canT_agg <| And.intro @canT_tup <| And.intro @clA_agg <|
  And.intro @clT_agg <| And.intro @clT_tup <| And.intro @pos_nil <| And.intro @pos_cons <| And.intro @clOb_arr <| And.intro @clOb_box <| And.intro @goIds_nil <| And.intro @goIds_cons <| And.intro @retV_eq <| And.intro @ClRows_nil_eq <|
  And.intro @ClRows_int_eq <| And.intro @ClRows_one_eq <| And.intro @Cl_int_eq <| And.intro @Cl_bool_eq <| And.intro @Cl_str_eq <| And.intro @wk_mk <| And.intro @envWk_nil <| And.intro @envWk_cons <| And.intro @objsWk_self <| @objsWk_nil) :=
  And.intro @can0_str <| And.intro @canA_str <| And.intro @canT_str <| And.intro @cl0_str <| And.intro @clA_str <| And.intro @clT_str <| And.intro @ids0_sl <| And.intro @idsA_sl <| And.intro @idsT_sl <| And.intro @can0_sl <|
  And.intro @canA_sl <| And.intro @canT_sl <| And.intro @cl0_sl <| And.intro @clA_sl <| And.intro @clT_sl <| And.intro @ids0_own <| And.intro @idsA_own <| And.intro @idsT_own <| And.intro @can0_own <| And.intro @canA_own <|
  And.intro @canT_own <| And.intro @cl0_own <| And.intro @clA_own <| And.intro @clT_own <| And.intro @ids0_ptr <| And.intro @idsA_ptr <| And.intro @idsT_ptr <| And.intro @can0_ptr <| And.intro @canA_ptr <| And.intro @canT_ptr <|
  And.intro @cl0_ptr <| And.intro @clA_ptr <| And.intro @clT_ptr <| And.intro @idsA_agg <| And.intro @idsT_agg <| And.intro @idsT_tup <| And.intro @canA_agg <| And.intro @canT_agg <| And.intro @canT_tup <| And.intro @clA_agg <|
  And.intro @clT_agg <| And.intro @clT_tup <| And.intro @pos_nil <| And.intro @pos_cons <| And.intro @clOb_arr <| And.intro @clOb_box <| And.intro @goIds_nil <| And.intro @goIds_cons <| And.intro @retV_eq <| And.intro @ClRows_nil_eq <|
  And.intro @ClRows_int_eq <| And.intro @ClRows_one_eq <| And.intro @Cl_int_eq <| And.intro @Cl_bool_eq <| And.intro @Cl_str_eq <| And.intro @wk_mk <| And.intro @envWk_nil <| And.intro @envWk_cons <| And.intro @objsWk_self <| @objsWk_nil
theorem vcA5 : type_of% (
  And.intro @objsWk_none <| And.intro @objsWk_some <| And.intro @RO_len <| And.intro @RO_get <| And.intro @RO_get0 <| And.intro @RO_set <| And.intro @RO_set0 <| And.intro @intRows_length <| And.intro @intRows_get <|
  And.intro @intRows_append <| And.intro @intRows_nil <| And.intro @intRows_take <| And.intro @intRows_drop <| And.intro @rowsBytes_int <| And.intro @isInts_sl <| And.intro @isInts_nil <| And.intro @intsD_sl <| And.intro @intsD_nil <|
  And.intro @allP_nil <| And.intro @allP_cons <| And.intro @ndup_nil <| And.intro @ndup_cons <| And.intro @notIn_nil <| And.intro @notIn_cons <| And.intro @ClRows_cons <| And.intro @wkT_tup <| And.intro @wkT_agg <| And.intro @wkA_agg <|
  And.intro @wkL_nil <| And.intro @wkL_cons <| And.intro @wkT_sl <| And.intro @wkA_sl <| And.intro @wk0_sl <| And.intro @wkT_int <| And.intro @wkA_int <| And.intro @wk0_int <| And.intro @wkT_bool <| And.intro @wkA_bool <|
  And.intro @wk0_bool <| And.intro @wkT_str <| And.intro @wkA_str <| And.intro @wk0_str <| And.intro @wkT_own <| And.intro @wkA_own <| And.intro @wk0_own <| And.intro @wkT_ptr <| And.intro @wkA_ptr <| And.intro @intRows_fold1 <|
  And.intro @intRows_foldc <| And.intro @intRows_set <| And.intro @addId_nil <| And.intro @addId_cons <| And.intro @addIds_nil <| And.intro @addIds_cons <| And.intro @idsE_nil <| And.intro @idsE_cons <| And.intro @canE_nil <|
  And.intro @canE_cons <| And.intro @canI_eq <| @canS_mk) :=
  And.intro @objsWk_none <| And.intro @objsWk_some <| And.intro @RO_len <| And.intro @RO_get <| And.intro @RO_get0 <| And.intro @RO_set <| And.intro @RO_set0 <| And.intro @intRows_length <| And.intro @intRows_get <|
  And.intro @intRows_append <| And.intro @intRows_nil <| And.intro @intRows_take <| And.intro @intRows_drop <| And.intro @rowsBytes_int <| And.intro @isInts_sl <| And.intro @isInts_nil <| And.intro @intsD_sl <| And.intro @intsD_nil <|
  And.intro @allP_nil <| And.intro @allP_cons <| And.intro @ndup_nil <| And.intro @ndup_cons <| And.intro @notIn_nil <| And.intro @notIn_cons <| And.intro @ClRows_cons <| And.intro @wkT_tup <| And.intro @wkT_agg <| And.intro @wkA_agg <|
  And.intro @wkL_nil <| And.intro @wkL_cons <| And.intro @wkT_sl <| And.intro @wkA_sl <| And.intro @wk0_sl <| And.intro @wkT_int <| And.intro @wkA_int <| And.intro @wk0_int <| And.intro @wkT_bool <| And.intro @wkA_bool <|
  And.intro @wk0_bool <| And.intro @wkT_str <| And.intro @wkA_str <| And.intro @wk0_str <| And.intro @wkT_own <| And.intro @wkA_own <| And.intro @wk0_own <| And.intro @wkT_ptr <| And.intro @wkA_ptr <| And.intro @intRows_fold1 <|
  And.intro @intRows_foldc <| And.intro @intRows_set <| And.intro @addId_nil <| And.intro @addId_cons <| And.intro @addIds_nil <| And.intro @addIds_cons <| And.intro @idsE_nil <| And.intro @idsE_cons <| And.intro @canE_nil <|
  And.intro @canE_cons <| And.intro @canI_eq <| @canS_mk
theorem vcA6 : type_of% (
  And.intro @idsT_rp <| And.intro @idsT_undef <| And.intro @canT_rp <| @objsWk_pre) :=
  And.intro @idsT_rp <| And.intro @idsT_undef <| And.intro @canT_rp <| @objsWk_pre
theorem vcP1 : type_of% (
  And.intro @opsWp_nil <| And.intro @opsWp_cons <| And.intro @stV_build <| And.intro @stV_mkrow <| And.intro @stV_call <| And.intro @stV_mov <| And.intro @stV_pick <| And.intro @stV_box <| And.intro @stV_alloc <| And.intro @stV_load <|
  And.intro @stV_store <| And.intro @stV_nilck <| And.intro @stV_bin <| And.intro @stV_eqB <| And.intro @stV_eqNil <| And.intro @stV_un <| And.intro @stV_i2i <| And.intro @stV_b2s <| And.intro @stV_s2b <| And.intro @stV_s2s <|
  And.intro @stV_lit <| And.intro @stV_slice <| And.intro @stV_sliceS <| And.intro @stV_faddr <| And.intro @stV_fld <| And.intro @stV_iaddr <| And.intro @stV_iaddrA <| And.intro @stV_idxS <| And.intro @stV_ext <| And.intro @stV_len <|
  And.intro @stV_lenS <| And.intro @stV_append <| And.intro @stV_mm <| And.intro @stV_mkslice <| And.intro @opsWp_guard <| And.intro @ot_done <| And.intro @ot_alt <| And.intro @ot_op <| And.intro @ot_guard <| And.intro @ot_take <|
  And.intro @ot_take0 <| And.intro @rc_skip <| And.intro @rc_reg <| And.intro @rc_regD <| And.intro @rc_seq <| And.intro @rc_cond <| And.intro @rc_blk <| And.intro @rc_loop <| And.intro @rc_ext <| And.intro @rc_ret <| And.intro @thenQ_n <|
  And.intro @thenQ_r <| And.intro @thenQ_e <| And.intro @inBlk_n <| And.intro @inBlk_r <| And.intro @inBlk_e <| And.intro @finQ_n <| And.intro @finQ_r <| And.intro @bindB_bool <| @bindO_some) :=
  And.intro @opsWp_nil <| And.intro @opsWp_cons <| And.intro @stV_build <| And.intro @stV_mkrow <| And.intro @stV_call <| And.intro @stV_mov <| And.intro @stV_pick <| And.intro @stV_box <| And.intro @stV_alloc <| And.intro @stV_load <|
  And.intro @stV_store <| And.intro @stV_nilck <| And.intro @stV_bin <| And.intro @stV_eqB <| And.intro @stV_eqNil <| And.intro @stV_un <| And.intro @stV_i2i <| And.intro @stV_b2s <| And.intro @stV_s2b <| And.intro @stV_s2s <|
  And.intro @stV_lit <| And.intro @stV_slice <| And.intro @stV_sliceS <| And.intro @stV_faddr <| And.intro @stV_fld <| And.intro @stV_iaddr <| And.intro @stV_iaddrA <| And.intro @stV_idxS <| And.intro @stV_ext <| And.intro @stV_len <|
  And.intro @stV_lenS <| And.intro @stV_append <| And.intro @stV_mm <| And.intro @stV_mkslice <| And.intro @opsWp_guard <| And.intro @ot_done <| And.intro @ot_alt <| And.intro @ot_op <| And.intro @ot_guard <| And.intro @ot_take <|
  And.intro @ot_take0 <| And.intro @rc_skip <| And.intro @rc_reg <| And.intro @rc_regD <| And.intro @rc_seq <| And.intro @rc_cond <| And.intro @rc_blk <| And.intro @rc_loop <| And.intro @rc_ext <| And.intro @rc_ret <| And.intro @thenQ_n <|
  And.intro @thenQ_r <| And.intro @thenQ_e <| And.intro @inBlk_n <| And.intro @inBlk_r <| And.intro @inBlk_e <| And.intro @finQ_n <| And.intro @finQ_r <| And.intro @bindB_bool <| @bindO_some
theorem vcP2 : type_of% (
  And.intro @bindO_none <| And.intro @bindO_map <| And.intro @bindO_bind <| And.intro @bindO_ite <| And.intro @cnd_true <| And.intro @cnd_false <| And.intro @callV_some <| And.intro @callV_h <| And.intro @bindG_bool <| And.intro @bindG_no <|
  And.intro @bindO_getI <| And.intro @bindO_getU <| And.intro @canGo_nil <| @canGo_cons) :=
  And.intro @bindO_none <| And.intro @bindO_map <| And.intro @bindO_bind <| And.intro @bindO_ite <| And.intro @cnd_true <| And.intro @cnd_false <| And.intro @callV_some <| And.intro @callV_h <| And.intro @bindG_bool <| And.intro @bindG_no <|
  And.intro @bindO_getI <| And.intro @bindO_getU <| And.intro @canGo_nil <| @canGo_cons
end Go.Proofs.Ytaopaongpoecoaa
