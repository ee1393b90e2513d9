/-
  GainCompares, walked.
-/
import Derived.Test.YtcdpiedgfkebcaaAwake2
namespace Go.Proofs.Ytcdpiedgfkebcaa
open Go Go.SL Go.Proofs

theorem law_GainCompares (a b : Use) (now : Int) {L : List HP} : Tr Try.prog 5 [.agg a.cells, .agg b.cells, .int .i64 now].toArray L (fun v L' => v = .bool true ∧ L = L') := by
  refine tr_enter Try.func5 rfl Try.ntmps5 rfl fun w0 => ?_
  cases hm : mayU a now
  all_goals
    repeat' (first
    | refine swl_op ?_
    | (refine s1_move ?_; refine sc_r (R_move (by rfl)) (by rfl) ?_)
    | (refine s1_load ?_; first | refine sc_r (L_load' (by rfl) (by infer_instance) (by rfl)) (by rfl) ?_ | refine sc_r (L_load_all (by rfl) (by infer_instance) (by rfl)) (by rfl) ?_ | refine sc_r (L_load_el (by rfl) (by infer_instance) (by infer_instance) (by omega) (by first | assumption | rfl)) (by rfl) ?_ | refine sc_r (L_load_el1 (by rfl) (by infer_instance) (by omega) (by first | assumption | rfl)) (by rfl) ?_ | refine sc_r (L_load_elf (by rfl) (by infer_instance) (by omega) (by first | assumption | rfl) (by rfl) (by rfl)) (by rfl) ?_ | refine sc_r (L_load_agg (by rfl) (by infer_instance) (by assumption) (by assumption)) (by rfl) ?_ | refine sc_r (L_load (by rfl) (by infer_instance) (by assumption)) (by rfl) ?_)
    | (refine s1_fieldAddr ?_; refine sc_r (R_fieldAddr (by rfl)) (by rfl) ?_)
    | (refine s1_assign ?_; refine sc_r (R_assign (by rfl)) (by rfl) ?_)
    | (refine s1_pick ?_; first | refine sc_r (R_pick_t (by rfl) (by rfl)) (by rfl) ?_ | refine sc_r (R_pick_f (by rfl) (by rfl)) (by rfl) ?_)
    | (refine s1_bin ?_; first | refine sc_r (R_lss (by rfl) (by rfl)) (by rfl) ?_ | refine sc_r (R_add64 (by rfl) (by rfl) (by omega)) (by rfl) ?_ | refine sc_r (R_gtr (by rfl) (by rfl)) (by rfl) ?_ | refine sc_r (R_leq (by rfl) (by rfl)) (by rfl) ?_ | refine sc_r (R_geq (by rfl) (by rfl)) (by rfl) ?_ | refine sc_r (R_eql (by rfl) (by rfl)) (by rfl) ?_ | refine sc_r (R_neq (by rfl) (by rfl)) (by rfl) ?_ | refine sc_r (R_sub64 (by rfl) (by rfl) (by omega)) (by rfl) ?_ | refine sc_r (R_mul64 (by rfl) (by rfl) (by first | assumption | omega)) (by rfl) ?_ | refine sc_r (R_eql_bool (by rfl) (by rfl)) (by rfl) ?_)
    | (refine s1_call ?_; first | (refine sc_c (by rfl) (C_call (by rfl) (by infer_instance) (by rfl) (by rfl) (gain_May' a now _ hm)) (by rfl) ?_; rintro _ _ ⟨rfl, rfl⟩) | (refine sc_c (by rfl) (C_call (by rfl) (by infer_instance) (by rfl) (by rfl) (ref18_May' a now _ hm)) (by rfl) ?_; rintro _ _ ⟨rfl, rfl⟩) | (refine sc_c (by rfl) (C_call (by rfl) (by infer_instance) (by rfl) (by rfl) (gain_Compare a b now)) (by rfl) ?_; rintro _ _ ⟨rfl, rfl⟩) | (refine sc_c (by rfl) (C_call (by rfl) (by infer_instance) (by rfl) (by rfl) (ref18_Compare a b now)) (by rfl) ?_; rintro _ _ ⟨rfl, rfl⟩) | (refine sc_c (by rfl) (C_call (by rfl) (by infer_instance) (by rfl) (by rfl) (awake18)) (by rfl) ?_; rintro _ _ ⟨rfl, rfl⟩) | (refine sc_w (by rfl) (W_append1 (by rfl) (by rfl) (by focus ((repeat (first | exact Rem.here | apply Rem.there)); done)) (by infer_instance) (by rfl) (by rfl) (by first | assumption | omega)) (by rfl) ?_; rintro _ _ rfl) | refine sc_r (R_len (by rfl)) (by rfl) ?_ | refine sc_r (R_len_str (by rfl)) (by rfl) ?_)
    | (refine s1_indexAddr ?_; first | refine sc_r (R_indexAddr (by rfl) (by rfl) (by omega)) (by rfl) ?_ | refine sc_r (R_indexAddr_arr (by rfl) (by rfl) (by omega)) (by rfl) ?_)
    | (refine s1_store ?_; first | (refine sc_w (by rfl) (W_storeAll (by rfl) (by rfl) (by infer_instance) (by rfl) (by rfl) (by rfl)) (by rfl) ?_; rintro _ _ ⟨rfl, rfl⟩) | (refine sc_w (by rfl) (W_storeL (by rfl) (by rfl) (by infer_instance) (by rfl) (by rfl) (by rfl)) (by rfl) ?_; rintro _ _ ⟨rfl, rfl⟩) | (refine sc_w (by rfl) (W_store1 (by rfl) (by rfl) (by infer_instance) (by rfl) (by assumption) (by rfl)) (by rfl) ?_; rintro _ _ ⟨rfl, rfl⟩))
    | (refine s1_alloc ?_; first | (refine sc_w (by rfl) W_allocA (by rfl) ?_; rintro _ _ ⟨_, rfl, rfl⟩) | (refine sc_w (by rfl) (W_alloc1 (by rfl)) (by rfl) ?_; rintro _ _ ⟨_, rfl, rfl⟩))
    | (refine s1_box ?_; first | (refine sc_w (by rfl) (W_boxA (by rfl)) (by rfl) ?_; rintro _ _ ⟨_, rfl, rfl⟩) | (refine sc_w (by rfl) (W_box1 (by rfl) (by rfl)) (by rfl) ?_; rintro _ _ ⟨_, rfl, rfl⟩))
    | (refine s1_conv ?_; first | refine sc_r (R_conv64 (by rfl) (by omega)) (by rfl) ?_)
    | (refine s1_slice ?_; first | refine sc_r (R_slice_h (by rfl) (by rfl) (by omega)) (by rfl) ?_ | refine sc_r (R_slice_l (by rfl) (by rfl) (by omega)) (by rfl) ?_ | refine sc_r (R_slice_lh (by rfl) (by rfl) (by rfl) (by omega)) (by rfl) ?_)
    | (refine s1_any ?_; first | refine sc_r (R_not (by rfl)) (by rfl) ?_ | refine sc_r (R_extract (by rfl) (by rfl)) (by rfl) ?_ | (refine sc_w (by rfl) (W_buildSlice1 (by rfl) (by rfl) (by rfl) (by rfl) (by rfl)) (by rfl) ?_; rintro _ _ ⟨_, rfl, rfl⟩) | (refine sc_w (by rfl) (W_buildSlice1s (by rfl) (by rfl)) (by rfl) ?_; rintro _ _ ⟨_, rfl, rfl⟩) | (refine sc_w (by rfl) (W_buildSlice (by rfl) (by rfl) (by rfl) (by rfl)) (by rfl) ?_; rintro _ _ ⟨_, rfl, rfl⟩) | refine sc_r (R_build (by rfl) (by rfl)) (by rfl) ?_ | refine sc_r (R_nilCheck (by rfl)) (by rfl) ?_ | refine sc_r (R_nilCheck_func (by rfl)) (by rfl) ?_ | (refine sc_w (by rfl) W_makeMap (by rfl) ?_; rintro _ _ ⟨_, rfl, rfl⟩) | refine sc_r (R_makeInterface (by rfl)) (by rfl) ?_ | refine sc_r (R_makeFunc (by rfl) (by rfl)) (by rfl) ?_)
    | refine swl_nil ?_
    | refine sx_next ?_
    | refine sw_seq ?_
    | refine sw_region ?_
    | refine sw_block ?_
    | refine swl_g_on (by rfl) (by rfl) ?_
    | refine swl_g_off (by rfl) (by rfl) (by rfl) (by rfl) ?_
    | refine swl_g_un (by rfl) (by rfl) (by rfl) ?_
    | refine swl_g_pos (by rfl) (by rfl) (by first | assumption | omega) ?_
    | refine swl_g_neg (by rfl) (by rfl) (by first | assumption | omega) ?_
    | refine swl_g_npos (by rfl) (by rfl) (by first | assumption | omega) ?_
    | refine swl_g_nneg (by rfl) (by rfl) (by first | assumption | omega) ?_
    | refine swl_g_dec (by rfl) (by rfl) (fun hp => ?_) (fun hp => ?_)
    | refine swl_g_ndec (by rfl) (by rfl) (fun hp => ?_) (fun hp => ?_)
    | refine swl_g_bool (by rfl) (by rfl) (fun hp => ?_) (fun hp => ?_)
    | refine sx_past_ret ?_
    | refine sx_past_exit ?_
    | refine sx_block_normal ?_
    | refine sx_block_ret ?_
    | refine sx_block_here ?_
    | refine sx_block_past (by rfl) ?_
    | refine sw_cond_true (by rfl) ?_
    | refine sw_cond_false (by rfl) ?_
    | refine sw_cond_pos (by rfl) (by first | assumption | omega) ?_
    | refine sw_cond_neg (by rfl) (by first | assumption | omega) ?_
    | refine sw_cond_npos (by rfl) (by first | assumption | omega) ?_
    | refine sw_cond_nneg (by rfl) (by first | assumption | omega) ?_
    | refine sw_cond_dec (by rfl) (fun hp => ?_) (fun hp => ?_)
    | refine sw_cond_not (by rfl) (fun hp => ?_) (fun hp => ?_)
    | refine sw_cond_bool (by rfl) (fun hp => ?_) (fun hp => ?_)
    | refine sw_ret ?_
    | refine sw_exit ?_
    | refine sw_skip ?_
    | refine swh_lt (by rfl) (fun _ _ => wanted_none) ?_
    | refine swh_lt (by rfl) (wanted_on (by rfl) (by rfl)) ?_
    | refine swh_off (by rfl) (by rfl) (by rfl) (by rfl) (by rfl) ?_
    | refine swh_heavy_off (by rfl) (by rfl) (by rfl) (by rfl) (by rfl) ?_
    | refine swh_un (by rfl) (by rfl) (by rfl) (by rfl) ?_
    | refine swh_heavy_un (by rfl) (by rfl) (by rfl) (by rfl) ?_
    | refine swh_hv (by rfl) (fun _ _ => wanted_none) ?_
    | refine swh_hv (by rfl) (wanted_on (by rfl) (by rfl)) ?_
    | refine swh_g_pos (by rfl) (by rfl) (by rfl) (by first | assumption | omega) ?_
    | refine swh_g_neg (by rfl) (by rfl) (by rfl) (by first | assumption | omega) ?_
    | refine swh_g_npos (by rfl) (by rfl) (by rfl) (by first | assumption | omega) ?_
    | refine swh_g_nneg (by rfl) (by rfl) (by rfl) (by first | assumption | omega) ?_
    | refine swh_g_dec (by rfl) (by rfl) (by rfl) (fun hp => ?_) (fun hp => ?_)
    | refine swh_g_ndec (by rfl) (by rfl) (by rfl) (fun hp => ?_) (fun hp => ?_)
    | refine swh_g_bool (by rfl) (by rfl) (by rfl) (fun hp => ?_) (fun hp => ?_)
    | refine swh_nil ?_
    | (apply And.intro; focus ((repeat (first | exact Ent.refl _ | exact Ent.nil | (apply Ent.pick; focus ((repeat (first | exact Rem.here | apply Rem.there)); done)) | apply Ent.drop)); done))
    | (refine sw_draw [(0, true), (1, true), (3, true), (4, true), (2, false), (5, false), (6, true), (7, true), (8, true), (9, true), (10, true), (12, true), (13, true), (14, true), (11, false), (15, false), (16, true), (17, true), (18, true), (19, false), (20, true), (21, true)] follows ?_ ?_ ?_; (focus rfl); (focus (decide +kernel))))
  --DBG
  all_goals first | exact absurd rfl hp | exact sx_ret_of (res1 rfl (ResOne.tmp rfl)) L ⟨rfl, rfl⟩ (by (repeat (first | exact Ent.refl _ | exact Ent.nil | (apply Ent.pick; focus ((repeat (first | exact Rem.here | apply Rem.there)); done)) | apply Ent.drop)))
end Go.Proofs.Ytcdpiedgfkebcaa
