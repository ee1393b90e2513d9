/-
  HeatFair, walked.
-/
import Derived.Test.YtcdpiedgfkebcaaFair1
import Derived.Test.YtcdpiedgfkebcaaLawA
namespace Go.Proofs.Ytcdpiedgfkebcaa
open Go Go.SL Go.Proofs

set_option maxHeartbeats 4000000 in
theorem law_HeatFair (l : List Heat) (now age need : Int) (hneed : -9223372036854775808 ≤ need ∧ need ≤ 9223372036854775807) {L : List HP} {p : Option Addr} {n cp : Nat} (hl : SlC L p 3 n cp (l.map Heat.cells)) :
    Tr Try.prog 4 [.agg #[.slice p n cp, .int .i64 now, .int .i64 age, .int .i64 need]].toArray L (fun v L' => v = .bool true ∧ L = L') := by
  have hl1 : SlC L p 3 (min n 41) cp ((l.take (min n 41)).map Heat.cells) := by rw [List.map_take]; exact hl.take _ (Nat.min_le_left _ _)
  have hfew := fun (L : List HP) => law17_few (L := L) (p := p) hl.le hl.bd
  have hm : min n 41 ≤ 41 := Nat.min_le_right _ _
  have hlen1 : (l.take (min n 41)).length = min n 41 := by simpa using hl1.len
  generalize min n 41 = m at *
  generalize l.take m = l1 at *
  clear hl
  have hP := fun (L : List HP) (hl : SlC L p 3 m cp (l1.map Heat.cells)) => heat_Pick l1 now age need hl (by omega) hneed
  have hP2 := fun (L : List HP) (q : Option Addr) (k cq : Nat) (hl : SlC L q 3 k cq (l1.reverse.map Heat.cells)) => heat_Pick l1.reverse now age need hl (by have := hl.len; simp at this; omega) hneed
  have hC := fun (L : List HP) (hl : SlC L p 3 m cp (l1.map Heat.cells)) => heat_Cold l1 now age hl (by omega)
  rw [pickOk_perm now age need (List.reverse_perm l1), pickS_perm now age need (List.reverse_perm l1)] at hP2
  have hgl : (pickS l1 now age need).length ≤ 41 := by
    unfold pickS; split
    · have h1 := pickR_length (coldS l1 now age) need; have h2 := length_coldS l1 now age; omega
    · simp
  have hcl : (coldS l1 now age).length ≤ 41 := by have h2 := length_coldS l1 now age; omega
  have hF1 : pickOk l1 now age need = true → coldOk l1 now age = true ∧ 0 ≤ need ∧ pickS l1 now age need = pickR need (coldS l1 now age) := fun h => by
    refine ⟨?_, ?_, by rw [pickS, if_pos h]⟩
    · simp only [pickOk, Bool.and_eq_true] at h; exact h.1
    · simp only [pickOk, Bool.and_eq_true, decide_eq_true_eq] at h; exact h.2
  have hF2 : pickOk l1 now age need = false → pickS l1 now age need = [] ∧ (coldOk l1 now age = true → need < 0) := fun h => by
    refine ⟨by rw [pickS, h, if_neg (by simp)], fun hok => ?_⟩
    simp only [pickOk, hok, Bool.true_and, decide_eq_false_iff_not] at h; omega
  have hcb : ∀ x ∈ coldS l1 now age, 1 ≤ x.blocks ∧ x.blocks ≤ 2147483647 := fun x hx => by
    have h := coldS_ok hx
    have h2 := (okH_iff x).1 h.1
    omega
  refine tr_enter Try.func4 rfl Try.ntmps4 rfl fun w0 => ?_
  generalize pickS l1 now age need = G at *
  generalize coldS l1 now age = c at *
  generalize pickOk l1 now age need = po at *
  generalize coldOk l1 now age = ok at *
  repeat' (first
    | refine swl_op ?_
    | (refine s1_move ?_; refine sc_r (R_move (by rfl)) (by rfl) ?_)
    | (refine s1_load ?_; first | refine sc_r (L_load' (by rfl) (by infer_instance) (by rfl)) (by rfl) ?_ | refine sc_r (L_load_all (by rfl) (by infer_instance) (by rfl)) (by rfl) ?_ | refine sc_r (L_load_el (by rfl) (by infer_instance) (by infer_instance) (by omega) (by first | assumption | rfl)) (by rfl) ?_ | refine sc_r (L_load_el1 (by rfl) (by infer_instance) (by omega) (by first | assumption | rfl)) (by rfl) ?_ | refine sc_r (L_load_elf (by rfl) (by infer_instance) (by omega) (by first | assumption | rfl) (by rfl) (by rfl)) (by rfl) ?_ | refine sc_r (L_load_agg (by rfl) (by infer_instance) (by assumption) (by assumption)) (by rfl) ?_ | refine sc_r (L_load (by rfl) (by infer_instance) (by assumption)) (by rfl) ?_)
    | (refine s1_fieldAddr ?_; refine sc_r (R_fieldAddr (by rfl)) (by rfl) ?_)
    | (refine s1_assign ?_; refine sc_r (R_assign (by rfl)) (by rfl) ?_)
    | (refine s1_pick ?_; first | refine sc_r (R_pick_t (by rfl) (by rfl)) (by rfl) ?_ | refine sc_r (R_pick_f (by rfl) (by rfl)) (by rfl) ?_)
    | (refine s1_bin ?_; first | refine sc_r (R_lss (by rfl) (by rfl)) (by rfl) ?_ | refine sc_r (R_add64 (by rfl) (by rfl) (by omega)) (by rfl) ?_ | refine sc_r (R_gtr (by rfl) (by rfl)) (by rfl) ?_ | refine sc_r (R_leq (by rfl) (by rfl)) (by rfl) ?_ | refine sc_r (R_geq (by rfl) (by rfl)) (by rfl) ?_ | refine sc_r (R_eql (by rfl) (by rfl)) (by rfl) ?_ | refine sc_r (R_neq (by rfl) (by rfl)) (by rfl) ?_ | refine sc_r (R_sub64 (by rfl) (by rfl) (by omega)) (by rfl) ?_ | refine sc_r (R_mul64 (by rfl) (by rfl) (by first | assumption | omega)) (by rfl) ?_)
    | (refine s1_call ?_; first | (refine sc_c (by rfl) (C_call (by rfl) (by infer_instance) (by rfl) (by rfl) (hfew _)) (by rfl) ?_; rintro _ _ ⟨rfl, rfl⟩) | (refine sc_c (by rfl) (C_call (by rfl) (by infer_instance) (by rfl) (by rfl) (hP _ (by infer_instance))) (by rfl) ?_; rintro _ _ ⟨vg, rfl, rfl⟩; refine swl_know (fun h H => vec_fact H) ?_; rintro ⟨pg, cg, rfl, hfg⟩; rw [List.length_map] at *) | (refine sc_w (by rfl) (W_append1 (by rfl) (by rfl) (by focus ((repeat (first | exact Rem.here | apply Rem.there)); done)) (by infer_instance) (by rfl) (by rfl) (by first | assumption | omega)) (by rfl) ?_; rintro _ _ rfl) | refine sc_r (R_len (by rfl)) (by rfl) ?_ | refine sc_r (R_len_str (by rfl)) (by rfl) ?_)
    | (refine s1_indexAddr ?_; first | refine sc_r (R_indexAddr (by rfl) (by rfl) (by omega)) (by rfl) ?_ | refine sc_r (R_indexAddr_arr (by rfl) (by rfl) (by omega)) (by rfl) ?_)
    | (refine s1_store ?_; first | (refine sc_w (by rfl) (W_storeAll (by rfl) (by rfl) (by infer_instance) (by rfl) (by rfl) (by rfl)) (by rfl) ?_; rintro _ _ ⟨rfl, rfl⟩) | (refine sc_w (by rfl) (W_storeL (by rfl) (by rfl) (by infer_instance) (by rfl) (by rfl) (by rfl)) (by rfl) ?_; rintro _ _ ⟨rfl, rfl⟩) | (refine sc_w (by rfl) (W_store1 (by rfl) (by rfl) (by infer_instance) (by rfl) (by assumption) (by rfl)) (by rfl) ?_; rintro _ _ ⟨rfl, rfl⟩))
    | (refine s1_alloc ?_; first | (refine sc_w (by rfl) W_allocA (by rfl) ?_; rintro _ _ ⟨_, rfl, rfl⟩) | (refine sc_w (by rfl) (W_alloc1 (by rfl)) (by rfl) ?_; rintro _ _ ⟨_, rfl, rfl⟩))
    | (refine s1_box ?_; first | (refine sc_w (by rfl) (W_boxA (by rfl)) (by rfl) ?_; rintro _ _ ⟨_, rfl, rfl⟩) | (refine sc_w (by rfl) (W_box1 (by rfl) (by rfl)) (by rfl) ?_; rintro _ _ ⟨_, rfl, rfl⟩))
    | (refine s1_conv ?_; first | refine sc_r (R_conv64 (by rfl) (by omega)) (by rfl) ?_)
    | (refine s1_slice ?_; first | refine sc_r (R_slice_h (by rfl) (by rfl) (by omega)) (by rfl) ?_ | refine sc_r (R_slice_l (by rfl) (by rfl) (by omega)) (by rfl) ?_ | refine sc_r (R_slice_lh (by rfl) (by rfl) (by rfl) (by omega)) (by rfl) ?_)
    | (refine s1_any ?_; first | refine sc_r (R_not (by rfl)) (by rfl) ?_ | refine sc_r (R_extract (by rfl) (by rfl)) (by rfl) ?_ | (refine sc_w (by rfl) (W_buildSlice1 (by rfl) (by rfl) (by rfl) (by rfl) (by rfl)) (by rfl) ?_; rintro _ _ ⟨_, rfl, rfl⟩) | (refine sc_w (by rfl) (W_buildSlice1s (by rfl) (by rfl)) (by rfl) ?_; rintro _ _ ⟨_, rfl, rfl⟩) | (refine sc_w (by rfl) (W_buildSlice (by rfl) (by rfl) (by rfl) (by rfl)) (by rfl) ?_; rintro _ _ ⟨_, rfl, rfl⟩) | refine sc_r (R_build (by rfl) (by rfl)) (by rfl) ?_ | refine sc_r (R_nilCheck (by rfl)) (by rfl) ?_ | refine sc_r (R_nilCheck_func (by rfl)) (by rfl) ?_ | (refine sc_w (by rfl) W_makeMap (by rfl) ?_; rintro _ _ ⟨_, rfl, rfl⟩) | refine sc_r (R_makeInterface (by rfl)) (by rfl) ?_ | refine sc_r (R_makeFunc (by rfl) (by rfl)) (by rfl) ?_)
    | refine swl_nil ?_
    | refine sx_next ?_
    | refine sw_seq ?_
    | refine sw_region ?_
    | refine sw_block ?_
    | refine swl_g_on (by rfl) (by rfl) ?_
    | refine swl_g_off (by rfl) (by rfl) (by rfl) (by rfl) ?_
    | refine swl_g_un (by rfl) (by rfl) (by rfl) ?_
    | refine swl_g_pos (by rfl) (by rfl) (by first | assumption | omega) ?_
    | refine swl_g_neg (by rfl) (by rfl) (by first | assumption | omega) ?_
    | refine swl_g_npos (by rfl) (by rfl) (by first | assumption | omega) ?_
    | refine swl_g_nneg (by rfl) (by rfl) (by first | assumption | omega) ?_
    | refine swl_g_dec (by rfl) (by rfl) (fun hp => ?_) (fun hp => ?_)
    | refine swl_g_ndec (by rfl) (by rfl) (fun hp => ?_) (fun hp => ?_)
    | refine swl_g_bool (by rfl) (by rfl) (fun hp => ?_) (fun hp => ?_)
    | refine sx_past_ret ?_
    | refine sx_past_exit ?_
    | refine sx_block_normal ?_
    | refine sx_block_ret ?_
    | refine sx_block_here ?_
    | refine sx_block_past (by rfl) ?_
    | refine sw_cond_true (by rfl) ?_
    | refine sw_cond_false (by rfl) ?_
    | refine sw_cond_pos (by rfl) (by first | assumption | omega) ?_
    | refine sw_cond_neg (by rfl) (by first | assumption | omega) ?_
    | refine sw_cond_npos (by rfl) (by first | assumption | omega) ?_
    | refine sw_cond_nneg (by rfl) (by first | assumption | omega) ?_
    | refine sw_cond_dec (by rfl) (fun hp => ?_) (fun hp => ?_)
    | refine sw_cond_not (by rfl) (fun hp => ?_) (fun hp => ?_)
    | refine sw_cond_bool (by rfl) (fun hp => ?_) (fun hp => ?_)
    | refine sw_ret ?_
    | refine sw_exit ?_
    | refine sw_skip ?_
    | refine swh_lt (by rfl) (fun _ _ => wanted_none) ?_
    | refine swh_lt (by rfl) (wanted_on (by rfl) (by rfl)) ?_
    | refine swh_off (by rfl) (by rfl) (by rfl) (by rfl) (by rfl) ?_
    | refine swh_heavy_off (by rfl) (by rfl) (by rfl) (by rfl) (by rfl) ?_
    | refine swh_un (by rfl) (by rfl) (by rfl) (by rfl) ?_
    | refine swh_heavy_un (by rfl) (by rfl) (by rfl) (by rfl) ?_
    | refine swh_hv (by rfl) (fun _ _ => wanted_none) ?_
    | refine swh_hv (by rfl) (wanted_on (by rfl) (by rfl)) ?_
    | refine swh_g_pos (by rfl) (by rfl) (by rfl) (by first | assumption | omega) ?_
    | refine swh_g_neg (by rfl) (by rfl) (by rfl) (by first | assumption | omega) ?_
    | refine swh_g_npos (by rfl) (by rfl) (by rfl) (by first | assumption | omega) ?_
    | refine swh_g_nneg (by rfl) (by rfl) (by rfl) (by first | assumption | omega) ?_
    | refine swh_g_dec (by rfl) (by rfl) (by rfl) (fun hp => ?_) (fun hp => ?_)
    | refine swh_g_ndec (by rfl) (by rfl) (by rfl) (fun hp => ?_) (fun hp => ?_)
    | refine swh_g_bool (by rfl) (by rfl) (by rfl) (fun hp => ?_) (fun hp => ?_)
    | refine swh_nil ?_
    | (apply And.intro; focus ((repeat (first | exact Ent.refl _ | exact Ent.nil | (apply Ent.pick; focus ((repeat (first | exact Rem.here | apply Rem.there)); done)) | apply Ent.drop)); done))
    | (refine sw_draw [(0, true), (1, true), (3, true), (4, true), (5, true), (6, true), (7, true), (8, true), (2, false), (9, true), (10, true), (11, true), (12, true)] follows ?_ ?_ ?_; (focus rfl); (focus (decide +kernel))))
  rename_i bx
  have hFg : Fact' ((G.map Heat.cells).length = G.length) := ⟨by simp⟩
  -- the list, turned round
  refine sw_loop (γ := Nat × Value × Int) (fun g => m - g.1) (fun g => [(3, .slice p m cp), (4, .int .i64 now), (5, .int .i64 age), (6, .int .i64 need), (7, .slice pg G.length cg), (8, .int .i64 (if po then 0 else 1)), (9, g.2.1), (10, .int .i64 g.2.2)])
    (fun g => vec 37 3 ((l1.reverse.take g.1).map Heat.cells) g.2.1 :: vec 37 3 (G.map Heat.cells) (.slice pg G.length cg) :: pt bx (.cells #[.slice p n cp, .int .i64 now, .int .i64 age, .int .i64 need] 34) :: L)
    (fun g => g.1 ≤ m ∧ g.2.2 = (m : Int) - 1 - g.1) (0, .slice none 0 0, (m : Int) - 1) (by simp)
    (by exact subE.cons rfl (subE.cons rfl (subE.cons rfl (subE.cons rfl (subE.cons rfl (subE.cons rfl (subE.cons rfl (subE.cons rfl subE.nil)))))))) Ent.vec_nil ?_
  rintro ⟨g, vr, z⟩ ⟨hg, hz⟩
  dsimp only at hg hz ⊢
  refine sw_know (fun h H => vec_fact H) ?_
  rintro ⟨pr, cr, rfl, hfr⟩
  have hrl : ((l1.reverse.take g).map Heat.cells).length ≤ 41 := by simp; omega
  by_cases hlt : g < m
  · obtain ⟨b1, o1, rfl⟩ := hl1.ptr (by omega)
    have hz1 : z.toNat < l1.length := by omega
    have he1 := heats_get hz1
    have hts : l1.reverse.take (g + 1) = l1.reverse.take g ++ [l1[z.toNat]] := by
      rw [List.take_succ_eq_append_getElem (by simp; omega), List.getElem_reverse]
      congr 3; omega
    generalize hx : l1[z.toNat] = x at *
    repeat' (first
    | refine swl_op ?_
    | (refine s1_move ?_; refine sc_r (R_move (by rfl)) (by rfl) ?_)
    | (refine s1_load ?_; first | refine sc_r (L_load' (by rfl) (by infer_instance) (by rfl)) (by rfl) ?_ | refine sc_r (L_load_all (by rfl) (by infer_instance) (by rfl)) (by rfl) ?_ | refine sc_r (L_load_el (by rfl) (by infer_instance) (by infer_instance) (by omega) (by first | assumption | rfl)) (by rfl) ?_ | refine sc_r (L_load_el1 (by rfl) (by infer_instance) (by omega) (by first | assumption | rfl)) (by rfl) ?_ | refine sc_r (L_load_elf (by rfl) (by infer_instance) (by omega) (by first | assumption | rfl) (by rfl) (by rfl)) (by rfl) ?_ | refine sc_r (L_load_agg (by rfl) (by infer_instance) (by assumption) (by assumption)) (by rfl) ?_ | refine sc_r (L_load (by rfl) (by infer_instance) (by assumption)) (by rfl) ?_)
    | (refine s1_fieldAddr ?_; refine sc_r (R_fieldAddr (by rfl)) (by rfl) ?_)
    | (refine s1_assign ?_; refine sc_r (R_assign (by rfl)) (by rfl) ?_)
    | (refine s1_pick ?_; first | refine sc_r (R_pick_t (by rfl) (by rfl)) (by rfl) ?_ | refine sc_r (R_pick_f (by rfl) (by rfl)) (by rfl) ?_)
    | (refine s1_bin ?_; first | refine sc_r (R_lss (by rfl) (by rfl)) (by rfl) ?_ | refine sc_r (R_add64 (by rfl) (by rfl) (by omega)) (by rfl) ?_ | refine sc_r (R_gtr (by rfl) (by rfl)) (by rfl) ?_ | refine sc_r (R_leq (by rfl) (by rfl)) (by rfl) ?_ | refine sc_r (R_geq (by rfl) (by rfl)) (by rfl) ?_ | refine sc_r (R_eql (by rfl) (by rfl)) (by rfl) ?_ | refine sc_r (R_neq (by rfl) (by rfl)) (by rfl) ?_ | refine sc_r (R_sub64 (by rfl) (by rfl) (by omega)) (by rfl) ?_ | refine sc_r (R_mul64 (by rfl) (by rfl) (by first | assumption | omega)) (by rfl) ?_)
    | (refine s1_call ?_; first | (refine sc_w (by rfl) (W_append1 (by rfl) (by rfl) (by focus ((repeat (first | exact Rem.here | apply Rem.there)); done)) (by infer_instance) (by rfl) (by rfl) (by first | assumption | omega)) (by rfl) ?_; rintro _ _ rfl) | refine sc_r (R_len (by rfl)) (by rfl) ?_ | refine sc_r (R_len_str (by rfl)) (by rfl) ?_)
    | (refine s1_indexAddr ?_; first | refine sc_r (R_indexAddr (by rfl) (by rfl) (by omega)) (by rfl) ?_ | refine sc_r (R_indexAddr_arr (by rfl) (by rfl) (by omega)) (by rfl) ?_)
    | (refine s1_store ?_; first | (refine sc_w (by rfl) (W_storeAll (by rfl) (by rfl) (by infer_instance) (by rfl) (by rfl) (by rfl)) (by rfl) ?_; rintro _ _ ⟨rfl, rfl⟩) | (refine sc_w (by rfl) (W_storeL (by rfl) (by rfl) (by infer_instance) (by rfl) (by rfl) (by rfl)) (by rfl) ?_; rintro _ _ ⟨rfl, rfl⟩) | (refine sc_w (by rfl) (W_store1 (by rfl) (by rfl) (by infer_instance) (by rfl) (by assumption) (by rfl)) (by rfl) ?_; rintro _ _ ⟨rfl, rfl⟩))
    | (refine s1_alloc ?_; first | (refine sc_w (by rfl) W_allocA (by rfl) ?_; rintro _ _ ⟨_, rfl, rfl⟩) | (refine sc_w (by rfl) (W_alloc1 (by rfl)) (by rfl) ?_; rintro _ _ ⟨_, rfl, rfl⟩))
    | (refine s1_box ?_; first | (refine sc_w (by rfl) (W_boxA (by rfl)) (by rfl) ?_; rintro _ _ ⟨_, rfl, rfl⟩) | (refine sc_w (by rfl) (W_box1 (by rfl) (by rfl)) (by rfl) ?_; rintro _ _ ⟨_, rfl, rfl⟩))
    | (refine s1_conv ?_; first | refine sc_r (R_conv64 (by rfl) (by omega)) (by rfl) ?_)
    | (refine s1_slice ?_; first | refine sc_r (R_slice_h (by rfl) (by rfl) (by omega)) (by rfl) ?_ | refine sc_r (R_slice_l (by rfl) (by rfl) (by omega)) (by rfl) ?_ | refine sc_r (R_slice_lh (by rfl) (by rfl) (by rfl) (by omega)) (by rfl) ?_)
    | (refine s1_any ?_; first | refine sc_r (R_not (by rfl)) (by rfl) ?_ | refine sc_r (R_extract (by rfl) (by rfl)) (by rfl) ?_ | (refine sc_w (by rfl) (W_buildSlice1 (by rfl) (by rfl) (by rfl) (by rfl) (by rfl)) (by rfl) ?_; rintro _ _ ⟨_, rfl, rfl⟩) | (refine sc_w (by rfl) (W_buildSlice1s (by rfl) (by rfl)) (by rfl) ?_; rintro _ _ ⟨_, rfl, rfl⟩) | (refine sc_w (by rfl) (W_buildSlice (by rfl) (by rfl) (by rfl) (by rfl)) (by rfl) ?_; rintro _ _ ⟨_, rfl, rfl⟩) | refine sc_r (R_build (by rfl) (by rfl)) (by rfl) ?_ | refine sc_r (R_nilCheck (by rfl)) (by rfl) ?_ | refine sc_r (R_nilCheck_func (by rfl)) (by rfl) ?_ | (refine sc_w (by rfl) W_makeMap (by rfl) ?_; rintro _ _ ⟨_, rfl, rfl⟩) | refine sc_r (R_makeInterface (by rfl)) (by rfl) ?_ | refine sc_r (R_makeFunc (by rfl) (by rfl)) (by rfl) ?_)
    | refine swl_nil ?_
    | refine sx_next ?_
    | refine sw_seq ?_
    | refine sw_region ?_
    | refine sw_block ?_
    | refine swl_g_on (by rfl) (by rfl) ?_
    | refine swl_g_off (by rfl) (by rfl) (by rfl) (by rfl) ?_
    | refine swl_g_un (by rfl) (by rfl) (by rfl) ?_
    | refine swl_g_pos (by rfl) (by rfl) (by first | assumption | omega) ?_
    | refine swl_g_neg (by rfl) (by rfl) (by first | assumption | omega) ?_
    | refine swl_g_npos (by rfl) (by rfl) (by first | assumption | omega) ?_
    | refine swl_g_nneg (by rfl) (by rfl) (by first | assumption | omega) ?_
    | refine swl_g_dec (by rfl) (by rfl) (fun hp => ?_) (fun hp => ?_)
    | refine swl_g_ndec (by rfl) (by rfl) (fun hp => ?_) (fun hp => ?_)
    | refine swl_g_bool (by rfl) (by rfl) (fun hp => ?_) (fun hp => ?_)
    | refine sx_past_ret ?_
    | refine sx_past_exit ?_
    | refine sx_block_normal ?_
    | refine sx_block_ret ?_
    | refine sx_block_here ?_
    | refine sx_block_past (by rfl) ?_
    | refine sw_cond_true (by rfl) ?_
    | refine sw_cond_false (by rfl) ?_
    | refine sw_cond_pos (by rfl) (by first | assumption | omega) ?_
    | refine sw_cond_neg (by rfl) (by first | assumption | omega) ?_
    | refine sw_cond_npos (by rfl) (by first | assumption | omega) ?_
    | refine sw_cond_nneg (by rfl) (by first | assumption | omega) ?_
    | refine sw_cond_dec (by rfl) (fun hp => ?_) (fun hp => ?_)
    | refine sw_cond_not (by rfl) (fun hp => ?_) (fun hp => ?_)
    | refine sw_cond_bool (by rfl) (fun hp => ?_) (fun hp => ?_)
    | refine sw_ret ?_
    | refine sw_exit ?_
    | refine sw_skip ?_)
    refine sx_back (g + 1, _, z - 1) (by first | (simp only; omega) | omega) (by first | (simp only; omega) | omega) (subE.cons rfl (subE.cons rfl (subE.cons rfl (subE.cons rfl (subE.cons rfl (subE.cons rfl (subE.cons rfl (subE.cons rfl subE.nil)))))))) ?_
    dsimp only
    rw [hts, List.map_append]
    (repeat (first | exact Ent.refl _ | exact Ent.nil | (apply Ent.pick; focus ((repeat (first | exact Rem.here | apply Rem.there)); done)) | apply Ent.drop))
  · rw [show l1.reverse.take g = l1.reverse from List.take_of_length_le (by simp; omega)] at *
    rw [List.length_map] at *
    have hFr : Fact' ((l1.reverse.map Heat.cells).length = l1.reverse.length) := ⟨by simp⟩
    cases po
    · obtain ⟨hG0, hnd⟩ := hF2 rfl
      subst hG0
      repeat' (first
    | refine swl_op ?_
    | (refine s1_move ?_; refine sc_r (R_move (by rfl)) (by rfl) ?_)
    | (refine s1_load ?_; first | refine sc_r (L_load' (by rfl) (by infer_instance) (by rfl)) (by rfl) ?_ | refine sc_r (L_load_all (by rfl) (by infer_instance) (by rfl)) (by rfl) ?_ | refine sc_r (L_load_el (by rfl) (by infer_instance) (by infer_instance) (by omega) (by first | assumption | rfl)) (by rfl) ?_ | refine sc_r (L_load_el1 (by rfl) (by infer_instance) (by omega) (by first | assumption | rfl)) (by rfl) ?_ | refine sc_r (L_load_elf (by rfl) (by infer_instance) (by omega) (by first | assumption | rfl) (by rfl) (by rfl)) (by rfl) ?_ | refine sc_r (L_load_agg (by rfl) (by infer_instance) (by assumption) (by assumption)) (by rfl) ?_ | refine sc_r (L_load (by rfl) (by infer_instance) (by assumption)) (by rfl) ?_)
    | (refine s1_fieldAddr ?_; refine sc_r (R_fieldAddr (by rfl)) (by rfl) ?_)
    | (refine s1_assign ?_; refine sc_r (R_assign (by rfl)) (by rfl) ?_)
    | (refine s1_pick ?_; first | refine sc_r (R_pick_t (by rfl) (by rfl)) (by rfl) ?_ | refine sc_r (R_pick_f (by rfl) (by rfl)) (by rfl) ?_)
    | (refine s1_bin ?_; first | refine sc_r (R_lss (by rfl) (by rfl)) (by rfl) ?_ | refine sc_r (R_add64 (by rfl) (by rfl) (by omega)) (by rfl) ?_ | refine sc_r (R_gtr (by rfl) (by rfl)) (by rfl) ?_ | refine sc_r (R_leq (by rfl) (by rfl)) (by rfl) ?_ | refine sc_r (R_geq (by rfl) (by rfl)) (by rfl) ?_ | refine sc_r (R_eql (by rfl) (by rfl)) (by rfl) ?_ | refine sc_r (R_neq (by rfl) (by rfl)) (by rfl) ?_ | refine sc_r (R_sub64 (by rfl) (by rfl) (by omega)) (by rfl) ?_ | refine sc_r (R_mul64 (by rfl) (by rfl) (by first | assumption | omega)) (by rfl) ?_)
    | (refine s1_call ?_; first | (refine sc_c (by rfl) (C_call (by rfl) (by infer_instance) (by rfl) (by rfl) (hP2 _ _ _ _ (by infer_instance))) (by rfl) ?_; rintro _ _ ⟨vg2, rfl, rfl⟩; refine swl_know (fun h H => vec_fact H) ?_; rintro ⟨pg2, cg2, rfl, hfg2⟩; rw [List.length_map] at *) | (refine sc_c (by rfl) (C_call (by rfl) (by infer_instance) (by rfl) (by rfl) (hC _ (by infer_instance))) (by rfl) ?_; rintro _ _ ⟨vc, rfl, rfl⟩; refine swl_know (fun h H => vec_fact H) ?_; rintro ⟨pc, cc, rfl, hfc⟩; rw [List.length_map] at *) | (refine sc_c (by rfl) (C_call (by rfl) (by infer_instance) (by rfl) (by rfl) (same_self _ (by infer_instance) (by infer_instance))) (by rfl) ?_; rintro _ _ ⟨rfl, rfl⟩) | (refine sc_c (by rfl) (C_call (by rfl) (by infer_instance) (by rfl) (by rfl) (awake17)) (by rfl) ?_; rintro _ _ ⟨rfl, rfl⟩) | (refine sc_w (by rfl) (W_append1 (by rfl) (by rfl) (by focus ((repeat (first | exact Rem.here | apply Rem.there)); done)) (by infer_instance) (by rfl) (by rfl) (by first | assumption | omega)) (by rfl) ?_; rintro _ _ rfl) | refine sc_r (R_len (by rfl)) (by rfl) ?_ | refine sc_r (R_len_str (by rfl)) (by rfl) ?_)
    | (refine s1_indexAddr ?_; first | refine sc_r (R_indexAddr (by rfl) (by rfl) (by omega)) (by rfl) ?_ | refine sc_r (R_indexAddr_arr (by rfl) (by rfl) (by omega)) (by rfl) ?_)
    | (refine s1_store ?_; first | (refine sc_w (by rfl) (W_storeAll (by rfl) (by rfl) (by infer_instance) (by rfl) (by rfl) (by rfl)) (by rfl) ?_; rintro _ _ ⟨rfl, rfl⟩) | (refine sc_w (by rfl) (W_storeL (by rfl) (by rfl) (by infer_instance) (by rfl) (by rfl) (by rfl)) (by rfl) ?_; rintro _ _ ⟨rfl, rfl⟩) | (refine sc_w (by rfl) (W_store1 (by rfl) (by rfl) (by infer_instance) (by rfl) (by assumption) (by rfl)) (by rfl) ?_; rintro _ _ ⟨rfl, rfl⟩))
    | (refine s1_alloc ?_; first | (refine sc_w (by rfl) W_allocA (by rfl) ?_; rintro _ _ ⟨_, rfl, rfl⟩) | (refine sc_w (by rfl) (W_alloc1 (by rfl)) (by rfl) ?_; rintro _ _ ⟨_, rfl, rfl⟩))
    | (refine s1_box ?_; first | (refine sc_w (by rfl) (W_boxA (by rfl)) (by rfl) ?_; rintro _ _ ⟨_, rfl, rfl⟩) | (refine sc_w (by rfl) (W_box1 (by rfl) (by rfl)) (by rfl) ?_; rintro _ _ ⟨_, rfl, rfl⟩))
    | (refine s1_conv ?_; first | refine sc_r (R_conv64 (by rfl) (by omega)) (by rfl) ?_)
    | (refine s1_slice ?_; first | refine sc_r (R_slice_h (by rfl) (by rfl) (by omega)) (by rfl) ?_ | refine sc_r (R_slice_l (by rfl) (by rfl) (by omega)) (by rfl) ?_ | refine sc_r (R_slice_lh (by rfl) (by rfl) (by rfl) (by omega)) (by rfl) ?_)
    | (refine s1_any ?_; first | refine sc_r (R_not (by rfl)) (by rfl) ?_ | refine sc_r (R_extract (by rfl) (by rfl)) (by rfl) ?_ | (refine sc_w (by rfl) (W_buildSlice1 (by rfl) (by rfl) (by rfl) (by rfl) (by rfl)) (by rfl) ?_; rintro _ _ ⟨_, rfl, rfl⟩) | (refine sc_w (by rfl) (W_buildSlice1s (by rfl) (by rfl)) (by rfl) ?_; rintro _ _ ⟨_, rfl, rfl⟩) | (refine sc_w (by rfl) (W_buildSlice (by rfl) (by rfl) (by rfl) (by rfl)) (by rfl) ?_; rintro _ _ ⟨_, rfl, rfl⟩) | refine sc_r (R_build (by rfl) (by rfl)) (by rfl) ?_ | refine sc_r (R_nilCheck (by rfl)) (by rfl) ?_ | refine sc_r (R_nilCheck_func (by rfl)) (by rfl) ?_ | (refine sc_w (by rfl) W_makeMap (by rfl) ?_; rintro _ _ ⟨_, rfl, rfl⟩) | refine sc_r (R_makeInterface (by rfl)) (by rfl) ?_ | refine sc_r (R_makeFunc (by rfl) (by rfl)) (by rfl) ?_)
    | refine swl_nil ?_
    | refine sx_next ?_
    | refine sw_seq ?_
    | refine sw_region ?_
    | refine sw_block ?_
    | refine swl_g_on (by rfl) (by rfl) ?_
    | refine swl_g_off (by rfl) (by rfl) (by rfl) (by rfl) ?_
    | refine swl_g_un (by rfl) (by rfl) (by rfl) ?_
    | refine swl_g_pos (by rfl) (by rfl) (by first | assumption | omega) ?_
    | refine swl_g_neg (by rfl) (by rfl) (by first | assumption | omega) ?_
    | refine swl_g_npos (by rfl) (by rfl) (by first | assumption | omega) ?_
    | refine swl_g_nneg (by rfl) (by rfl) (by first | assumption | omega) ?_
    | refine swl_g_dec (by rfl) (by rfl) (fun hp => ?_) (fun hp => ?_)
    | refine swl_g_ndec (by rfl) (by rfl) (fun hp => ?_) (fun hp => ?_)
    | refine swl_g_bool (by rfl) (by rfl) (fun hp => ?_) (fun hp => ?_)
    | refine sx_past_ret ?_
    | refine sx_past_exit ?_
    | refine sx_block_normal ?_
    | refine sx_block_ret ?_
    | refine sx_block_here ?_
    | refine sx_block_past (by rfl) ?_
    | refine sw_cond_true (by rfl) ?_
    | refine sw_cond_false (by rfl) ?_
    | refine sw_cond_pos (by rfl) (by first | assumption | omega) ?_
    | refine sw_cond_neg (by rfl) (by first | assumption | omega) ?_
    | refine sw_cond_npos (by rfl) (by first | assumption | omega) ?_
    | refine sw_cond_nneg (by rfl) (by first | assumption | omega) ?_
    | refine sw_cond_dec (by rfl) (fun hp => ?_) (fun hp => ?_)
    | refine sw_cond_not (by rfl) (fun hp => ?_) (fun hp => ?_)
    | refine sw_cond_bool (by rfl) (fun hp => ?_) (fun hp => ?_)
    | refine sw_ret ?_
    | refine sw_exit ?_
    | refine sw_skip ?_)
      · exact sx_ret_of (res1 rfl (ResOne.tmp rfl)) L ⟨rfl, rfl⟩ (by (repeat (first | exact Ent.refl _ | exact Ent.nil | (apply Ent.pick; focus ((repeat (first | exact Rem.here | apply Rem.there)); done)) | apply Ent.drop)))
      · exact sx_ret_of (res1 rfl (ResOne.tmp rfl)) L ⟨rfl, rfl⟩ (by (repeat (first | exact Ent.refl _ | exact Ent.nil | (apply Ent.pick; focus ((repeat (first | exact Rem.here | apply Rem.there)); done)) | apply Ent.drop)))
      · exfalso
        cases ok
        · simp at *
        · have := hnd rfl; omega
    · obtain ⟨rfl, hn0, hGd⟩ := hF1 rfl
      have hsum := pickR_sum c need (fun x hx => (hcb x hx).1) hn0
      have hpos := pickR_pos c need hcb hn0
      have hfirm : ∀ (i : Nat) (h : i + 1 < G.length) (h2 : i < c.length), G[i] = c[i] := by subst hGd; exact pickR_firm c need
      have hGc : G.length ≤ c.length := by rw [hGd]; exact pickR_length c need
      rw [← hGd] at hsum hpos
      have hGb := fun g => sumB_bd (l := G.take g) (fun x hx => by have := hpos x (List.mem_of_mem_take hx); omega)
      have hcbd := fun g => sumB_bd (l := c.take g) (fun x hx => by have := hcb x (List.mem_of_mem_take hx); omega)
      repeat' (first
    | refine swl_op ?_
    | (refine s1_move ?_; refine sc_r (R_move (by rfl)) (by rfl) ?_)
    | (refine s1_load ?_; first | refine sc_r (L_load' (by rfl) (by infer_instance) (by rfl)) (by rfl) ?_ | refine sc_r (L_load_all (by rfl) (by infer_instance) (by rfl)) (by rfl) ?_ | refine sc_r (L_load_el (by rfl) (by infer_instance) (by infer_instance) (by omega) (by first | assumption | rfl)) (by rfl) ?_ | refine sc_r (L_load_el1 (by rfl) (by infer_instance) (by omega) (by first | assumption | rfl)) (by rfl) ?_ | refine sc_r (L_load_elf (by rfl) (by infer_instance) (by omega) (by first | assumption | rfl) (by rfl) (by rfl)) (by rfl) ?_ | refine sc_r (L_load_agg (by rfl) (by infer_instance) (by assumption) (by assumption)) (by rfl) ?_ | refine sc_r (L_load (by rfl) (by infer_instance) (by assumption)) (by rfl) ?_)
    | (refine s1_fieldAddr ?_; refine sc_r (R_fieldAddr (by rfl)) (by rfl) ?_)
    | (refine s1_assign ?_; refine sc_r (R_assign (by rfl)) (by rfl) ?_)
    | (refine s1_pick ?_; first | refine sc_r (R_pick_t (by rfl) (by rfl)) (by rfl) ?_ | refine sc_r (R_pick_f (by rfl) (by rfl)) (by rfl) ?_)
    | (refine s1_bin ?_; first | refine sc_r (R_lss (by rfl) (by rfl)) (by rfl) ?_ | refine sc_r (R_add64 (by rfl) (by rfl) (by omega)) (by rfl) ?_ | refine sc_r (R_gtr (by rfl) (by rfl)) (by rfl) ?_ | refine sc_r (R_leq (by rfl) (by rfl)) (by rfl) ?_ | refine sc_r (R_geq (by rfl) (by rfl)) (by rfl) ?_ | refine sc_r (R_eql (by rfl) (by rfl)) (by rfl) ?_ | refine sc_r (R_neq (by rfl) (by rfl)) (by rfl) ?_ | refine sc_r (R_sub64 (by rfl) (by rfl) (by omega)) (by rfl) ?_ | refine sc_r (R_mul64 (by rfl) (by rfl) (by first | assumption | omega)) (by rfl) ?_)
    | (refine s1_call ?_; first | (refine sc_c (by rfl) (C_call (by rfl) (by infer_instance) (by rfl) (by rfl) (hP2 _ _ _ _ (by infer_instance))) (by rfl) ?_; rintro _ _ ⟨vg2, rfl, rfl⟩; refine swl_know (fun h H => vec_fact H) ?_; rintro ⟨pg2, cg2, rfl, hfg2⟩; rw [List.length_map] at *) | (refine sc_c (by rfl) (C_call (by rfl) (by infer_instance) (by rfl) (by rfl) (hC _ (by infer_instance))) (by rfl) ?_; rintro _ _ ⟨vc, rfl, rfl⟩; refine swl_know (fun h H => vec_fact H) ?_; rintro ⟨pc, cc, rfl, hfc⟩; rw [List.length_map] at *) | (refine sc_c (by rfl) (C_call (by rfl) (by infer_instance) (by rfl) (by rfl) (same_self _ (by infer_instance) (by infer_instance))) (by rfl) ?_; rintro _ _ ⟨rfl, rfl⟩) | (refine sc_w (by rfl) (W_append1 (by rfl) (by rfl) (by focus ((repeat (first | exact Rem.here | apply Rem.there)); done)) (by infer_instance) (by rfl) (by rfl) (by first | assumption | omega)) (by rfl) ?_; rintro _ _ rfl) | refine sc_r (R_len (by rfl)) (by rfl) ?_ | refine sc_r (R_len_str (by rfl)) (by rfl) ?_)
    | (refine s1_indexAddr ?_; first | refine sc_r (R_indexAddr (by rfl) (by rfl) (by omega)) (by rfl) ?_ | refine sc_r (R_indexAddr_arr (by rfl) (by rfl) (by omega)) (by rfl) ?_)
    | (refine s1_store ?_; first | (refine sc_w (by rfl) (W_storeAll (by rfl) (by rfl) (by infer_instance) (by rfl) (by rfl) (by rfl)) (by rfl) ?_; rintro _ _ ⟨rfl, rfl⟩) | (refine sc_w (by rfl) (W_storeL (by rfl) (by rfl) (by infer_instance) (by rfl) (by rfl) (by rfl)) (by rfl) ?_; rintro _ _ ⟨rfl, rfl⟩) | (refine sc_w (by rfl) (W_store1 (by rfl) (by rfl) (by infer_instance) (by rfl) (by assumption) (by rfl)) (by rfl) ?_; rintro _ _ ⟨rfl, rfl⟩))
    | (refine s1_alloc ?_; first | (refine sc_w (by rfl) W_allocA (by rfl) ?_; rintro _ _ ⟨_, rfl, rfl⟩) | (refine sc_w (by rfl) (W_alloc1 (by rfl)) (by rfl) ?_; rintro _ _ ⟨_, rfl, rfl⟩))
    | (refine s1_box ?_; first | (refine sc_w (by rfl) (W_boxA (by rfl)) (by rfl) ?_; rintro _ _ ⟨_, rfl, rfl⟩) | (refine sc_w (by rfl) (W_box1 (by rfl) (by rfl)) (by rfl) ?_; rintro _ _ ⟨_, rfl, rfl⟩))
    | (refine s1_conv ?_; first | refine sc_r (R_conv64 (by rfl) (by omega)) (by rfl) ?_)
    | (refine s1_slice ?_; first | refine sc_r (R_slice_h (by rfl) (by rfl) (by omega)) (by rfl) ?_ | refine sc_r (R_slice_l (by rfl) (by rfl) (by omega)) (by rfl) ?_ | refine sc_r (R_slice_lh (by rfl) (by rfl) (by rfl) (by omega)) (by rfl) ?_)
    | (refine s1_any ?_; first | refine sc_r (R_not (by rfl)) (by rfl) ?_ | refine sc_r (R_extract (by rfl) (by rfl)) (by rfl) ?_ | (refine sc_w (by rfl) (W_buildSlice1 (by rfl) (by rfl) (by rfl) (by rfl) (by rfl)) (by rfl) ?_; rintro _ _ ⟨_, rfl, rfl⟩) | (refine sc_w (by rfl) (W_buildSlice1s (by rfl) (by rfl)) (by rfl) ?_; rintro _ _ ⟨_, rfl, rfl⟩) | (refine sc_w (by rfl) (W_buildSlice (by rfl) (by rfl) (by rfl) (by rfl)) (by rfl) ?_; rintro _ _ ⟨_, rfl, rfl⟩) | refine sc_r (R_build (by rfl) (by rfl)) (by rfl) ?_ | refine sc_r (R_nilCheck (by rfl)) (by rfl) ?_ | refine sc_r (R_nilCheck_func (by rfl)) (by rfl) ?_ | (refine sc_w (by rfl) W_makeMap (by rfl) ?_; rintro _ _ ⟨_, rfl, rfl⟩) | refine sc_r (R_makeInterface (by rfl)) (by rfl) ?_ | refine sc_r (R_makeFunc (by rfl) (by rfl)) (by rfl) ?_)
    | refine swl_nil ?_
    | refine sx_next ?_
    | refine sw_seq ?_
    | refine sw_region ?_
    | refine sw_block ?_
    | refine swl_g_on (by rfl) (by rfl) ?_
    | refine swl_g_off (by rfl) (by rfl) (by rfl) (by rfl) ?_
    | refine swl_g_un (by rfl) (by rfl) (by rfl) ?_
    | refine swl_g_pos (by rfl) (by rfl) (by first | assumption | omega) ?_
    | refine swl_g_neg (by rfl) (by rfl) (by first | assumption | omega) ?_
    | refine swl_g_npos (by rfl) (by rfl) (by first | assumption | omega) ?_
    | refine swl_g_nneg (by rfl) (by rfl) (by first | assumption | omega) ?_
    | refine swl_g_dec (by rfl) (by rfl) (fun hp => ?_) (fun hp => ?_)
    | refine swl_g_ndec (by rfl) (by rfl) (fun hp => ?_) (fun hp => ?_)
    | refine swl_g_bool (by rfl) (by rfl) (fun hp => ?_) (fun hp => ?_)
    | refine sx_past_ret ?_
    | refine sx_past_exit ?_
    | refine sx_block_normal ?_
    | refine sx_block_ret ?_
    | refine sx_block_here ?_
    | refine sx_block_past (by rfl) ?_
    | refine sw_cond_true (by rfl) ?_
    | refine sw_cond_false (by rfl) ?_
    | refine sw_cond_pos (by rfl) (by first | assumption | omega) ?_
    | refine sw_cond_neg (by rfl) (by first | assumption | omega) ?_
    | refine sw_cond_npos (by rfl) (by first | assumption | omega) ?_
    | refine sw_cond_nneg (by rfl) (by first | assumption | omega) ?_
    | refine sw_cond_dec (by rfl) (fun hp => ?_) (fun hp => ?_)
    | refine sw_cond_not (by rfl) (fun hp => ?_) (fun hp => ?_)
    | refine sw_cond_bool (by rfl) (fun hp => ?_) (fun hp => ?_)
    | refine sw_ret ?_
    | refine sw_exit ?_
    | refine sw_skip ?_)
      have hFc : Fact' ((c.map Heat.cells).length = c.length) := ⟨by simp⟩
      -- the sum of what was picked
      refine sw_loop (γ := Nat) (fun g => G.length - g) (fun g => [(6, .int .i64 need), (7, .slice pg G.length cg), (13, .slice pc c.length cc), (15, .int .i64 (sumB (G.take g))), (16, .int .i64 0), (17, .int .i64 g)])
        (fun _ => vec 37 3 (c.map Heat.cells) (.slice pc c.length cc) :: vec 37 3 (G.map Heat.cells) (.slice pg2 G.length cg2) :: vec 37 3 (l1.reverse.map Heat.cells) (.slice pr l1.reverse.length cr) :: vec 37 3 (G.map Heat.cells) (.slice pg G.length cg) :: L) (fun g => g ≤ G.length) 0 (by omega)
        (by exact subE.cons rfl (subE.cons rfl (subE.cons rfl (subE.cons rfl (subE.cons rfl (subE.cons rfl subE.nil)))))) (by (repeat (first | exact Ent.refl _ | exact Ent.nil | (apply Ent.pick; focus ((repeat (first | exact Rem.here | apply Rem.there)); done)) | apply Ent.drop))) ?_
      intro i hi
      by_cases hlt2 : i < G.length
      · obtain ⟨b1, o1, rfl⟩ := hfg.ptr (by omega)
        have he1 := heats_get hlt2
        have hts := sumB_take_succ hlt2
        have hp1 := hpos _ (List.getElem_mem hlt2)
        have hb1 := hGb i
        have hl41 : (G.take i).length ≤ 41 := by simp; omega
        generalize hx : G[i] = x at *
        repeat' (first
    | refine swl_op ?_
    | (refine s1_move ?_; refine sc_r (R_move (by rfl)) (by rfl) ?_)
    | (refine s1_load ?_; first | refine sc_r (L_load' (by rfl) (by infer_instance) (by rfl)) (by rfl) ?_ | refine sc_r (L_load_all (by rfl) (by infer_instance) (by rfl)) (by rfl) ?_ | refine sc_r (L_load_el (by rfl) (by infer_instance) (by infer_instance) (by omega) (by first | assumption | rfl)) (by rfl) ?_ | refine sc_r (L_load_el1 (by rfl) (by infer_instance) (by omega) (by first | assumption | rfl)) (by rfl) ?_ | refine sc_r (L_load_elf (by rfl) (by infer_instance) (by omega) (by first | assumption | rfl) (by rfl) (by rfl)) (by rfl) ?_ | refine sc_r (L_load_agg (by rfl) (by infer_instance) (by assumption) (by assumption)) (by rfl) ?_ | refine sc_r (L_load (by rfl) (by infer_instance) (by assumption)) (by rfl) ?_)
    | (refine s1_fieldAddr ?_; refine sc_r (R_fieldAddr (by rfl)) (by rfl) ?_)
    | (refine s1_assign ?_; refine sc_r (R_assign (by rfl)) (by rfl) ?_)
    | (refine s1_pick ?_; first | refine sc_r (R_pick_t (by rfl) (by rfl)) (by rfl) ?_ | refine sc_r (R_pick_f (by rfl) (by rfl)) (by rfl) ?_)
    | (refine s1_bin ?_; first | refine sc_r (R_lss (by rfl) (by rfl)) (by rfl) ?_ | refine sc_r (R_add64 (by rfl) (by rfl) (by omega)) (by rfl) ?_ | refine sc_r (R_gtr (by rfl) (by rfl)) (by rfl) ?_ | refine sc_r (R_leq (by rfl) (by rfl)) (by rfl) ?_ | refine sc_r (R_geq (by rfl) (by rfl)) (by rfl) ?_ | refine sc_r (R_eql (by rfl) (by rfl)) (by rfl) ?_ | refine sc_r (R_neq (by rfl) (by rfl)) (by rfl) ?_ | refine sc_r (R_sub64 (by rfl) (by rfl) (by omega)) (by rfl) ?_ | refine sc_r (R_mul64 (by rfl) (by rfl) (by first | assumption | omega)) (by rfl) ?_)
    | (refine s1_call ?_; first | (refine sc_w (by rfl) (W_append1 (by rfl) (by rfl) (by focus ((repeat (first | exact Rem.here | apply Rem.there)); done)) (by infer_instance) (by rfl) (by rfl) (by first | assumption | omega)) (by rfl) ?_; rintro _ _ rfl) | refine sc_r (R_len (by rfl)) (by rfl) ?_ | refine sc_r (R_len_str (by rfl)) (by rfl) ?_)
    | (refine s1_indexAddr ?_; first | refine sc_r (R_indexAddr (by rfl) (by rfl) (by omega)) (by rfl) ?_ | refine sc_r (R_indexAddr_arr (by rfl) (by rfl) (by omega)) (by rfl) ?_)
    | (refine s1_store ?_; first | (refine sc_w (by rfl) (W_storeAll (by rfl) (by rfl) (by infer_instance) (by rfl) (by rfl) (by rfl)) (by rfl) ?_; rintro _ _ ⟨rfl, rfl⟩) | (refine sc_w (by rfl) (W_storeL (by rfl) (by rfl) (by infer_instance) (by rfl) (by rfl) (by rfl)) (by rfl) ?_; rintro _ _ ⟨rfl, rfl⟩) | (refine sc_w (by rfl) (W_store1 (by rfl) (by rfl) (by infer_instance) (by rfl) (by assumption) (by rfl)) (by rfl) ?_; rintro _ _ ⟨rfl, rfl⟩))
    | (refine s1_alloc ?_; first | (refine sc_w (by rfl) W_allocA (by rfl) ?_; rintro _ _ ⟨_, rfl, rfl⟩) | (refine sc_w (by rfl) (W_alloc1 (by rfl)) (by rfl) ?_; rintro _ _ ⟨_, rfl, rfl⟩))
    | (refine s1_box ?_; first | (refine sc_w (by rfl) (W_boxA (by rfl)) (by rfl) ?_; rintro _ _ ⟨_, rfl, rfl⟩) | (refine sc_w (by rfl) (W_box1 (by rfl) (by rfl)) (by rfl) ?_; rintro _ _ ⟨_, rfl, rfl⟩))
    | (refine s1_conv ?_; first | refine sc_r (R_conv64 (by rfl) (by omega)) (by rfl) ?_)
    | (refine s1_slice ?_; first | refine sc_r (R_slice_h (by rfl) (by rfl) (by omega)) (by rfl) ?_ | refine sc_r (R_slice_l (by rfl) (by rfl) (by omega)) (by rfl) ?_ | refine sc_r (R_slice_lh (by rfl) (by rfl) (by rfl) (by omega)) (by rfl) ?_)
    | (refine s1_any ?_; first | refine sc_r (R_not (by rfl)) (by rfl) ?_ | refine sc_r (R_extract (by rfl) (by rfl)) (by rfl) ?_ | (refine sc_w (by rfl) (W_buildSlice1 (by rfl) (by rfl) (by rfl) (by rfl) (by rfl)) (by rfl) ?_; rintro _ _ ⟨_, rfl, rfl⟩) | (refine sc_w (by rfl) (W_buildSlice1s (by rfl) (by rfl)) (by rfl) ?_; rintro _ _ ⟨_, rfl, rfl⟩) | (refine sc_w (by rfl) (W_buildSlice (by rfl) (by rfl) (by rfl) (by rfl)) (by rfl) ?_; rintro _ _ ⟨_, rfl, rfl⟩) | refine sc_r (R_build (by rfl) (by rfl)) (by rfl) ?_ | refine sc_r (R_nilCheck (by rfl)) (by rfl) ?_ | refine sc_r (R_nilCheck_func (by rfl)) (by rfl) ?_ | (refine sc_w (by rfl) W_makeMap (by rfl) ?_; rintro _ _ ⟨_, rfl, rfl⟩) | refine sc_r (R_makeInterface (by rfl)) (by rfl) ?_ | refine sc_r (R_makeFunc (by rfl) (by rfl)) (by rfl) ?_)
    | refine swl_nil ?_
    | refine sx_next ?_
    | refine sw_seq ?_
    | refine sw_region ?_
    | refine sw_block ?_
    | refine swl_g_on (by rfl) (by rfl) ?_
    | refine swl_g_off (by rfl) (by rfl) (by rfl) (by rfl) ?_
    | refine swl_g_un (by rfl) (by rfl) (by rfl) ?_
    | refine swl_g_pos (by rfl) (by rfl) (by first | assumption | omega) ?_
    | refine swl_g_neg (by rfl) (by rfl) (by first | assumption | omega) ?_
    | refine swl_g_npos (by rfl) (by rfl) (by first | assumption | omega) ?_
    | refine swl_g_nneg (by rfl) (by rfl) (by first | assumption | omega) ?_
    | refine swl_g_dec (by rfl) (by rfl) (fun hp => ?_) (fun hp => ?_)
    | refine swl_g_ndec (by rfl) (by rfl) (fun hp => ?_) (fun hp => ?_)
    | refine swl_g_bool (by rfl) (by rfl) (fun hp => ?_) (fun hp => ?_)
    | refine sx_past_ret ?_
    | refine sx_past_exit ?_
    | refine sx_block_normal ?_
    | refine sx_block_ret ?_
    | refine sx_block_here ?_
    | refine sx_block_past (by rfl) ?_
    | refine sw_cond_true (by rfl) ?_
    | refine sw_cond_false (by rfl) ?_
    | refine sw_cond_pos (by rfl) (by first | assumption | omega) ?_
    | refine sw_cond_neg (by rfl) (by first | assumption | omega) ?_
    | refine sw_cond_npos (by rfl) (by first | assumption | omega) ?_
    | refine sw_cond_nneg (by rfl) (by first | assumption | omega) ?_
    | refine sw_cond_dec (by rfl) (fun hp => ?_) (fun hp => ?_)
    | refine sw_cond_not (by rfl) (fun hp => ?_) (fun hp => ?_)
    | refine sw_cond_bool (by rfl) (fun hp => ?_) (fun hp => ?_)
    | refine sw_ret ?_
    | refine sw_exit ?_
    | refine sw_skip ?_)
        refine sx_back (i + 1) (by omega) (by omega) (by rw [hts]; exact subE.cons rfl (subE.cons rfl (subE.cons rfl (subE.cons rfl (subE.cons rfl (subE.cons rfl subE.nil)))))) (by (repeat (first | exact Ent.refl _ | exact Ent.nil | (apply Ent.pick; focus ((repeat (first | exact Rem.here | apply Rem.there)); done)) | apply Ent.drop)))
      · rw [show G.take i = G from List.take_of_length_le (by omega)]
        repeat' (first
    | refine swl_op ?_
    | (refine s1_move ?_; refine sc_r (R_move (by rfl)) (by rfl) ?_)
    | (refine s1_load ?_; first | refine sc_r (L_load' (by rfl) (by infer_instance) (by rfl)) (by rfl) ?_ | refine sc_r (L_load_all (by rfl) (by infer_instance) (by rfl)) (by rfl) ?_ | refine sc_r (L_load_el (by rfl) (by infer_instance) (by infer_instance) (by omega) (by first | assumption | rfl)) (by rfl) ?_ | refine sc_r (L_load_el1 (by rfl) (by infer_instance) (by omega) (by first | assumption | rfl)) (by rfl) ?_ | refine sc_r (L_load_elf (by rfl) (by infer_instance) (by omega) (by first | assumption | rfl) (by rfl) (by rfl)) (by rfl) ?_ | refine sc_r (L_load_agg (by rfl) (by infer_instance) (by assumption) (by assumption)) (by rfl) ?_ | refine sc_r (L_load (by rfl) (by infer_instance) (by assumption)) (by rfl) ?_)
    | (refine s1_fieldAddr ?_; refine sc_r (R_fieldAddr (by rfl)) (by rfl) ?_)
    | (refine s1_assign ?_; refine sc_r (R_assign (by rfl)) (by rfl) ?_)
    | (refine s1_pick ?_; first | refine sc_r (R_pick_t (by rfl) (by rfl)) (by rfl) ?_ | refine sc_r (R_pick_f (by rfl) (by rfl)) (by rfl) ?_)
    | (refine s1_bin ?_; first | refine sc_r (R_lss (by rfl) (by rfl)) (by rfl) ?_ | refine sc_r (R_add64 (by rfl) (by rfl) (by omega)) (by rfl) ?_ | refine sc_r (R_gtr (by rfl) (by rfl)) (by rfl) ?_ | refine sc_r (R_leq (by rfl) (by rfl)) (by rfl) ?_ | refine sc_r (R_geq (by rfl) (by rfl)) (by rfl) ?_ | refine sc_r (R_eql (by rfl) (by rfl)) (by rfl) ?_ | refine sc_r (R_neq (by rfl) (by rfl)) (by rfl) ?_ | refine sc_r (R_sub64 (by rfl) (by rfl) (by omega)) (by rfl) ?_ | refine sc_r (R_mul64 (by rfl) (by rfl) (by first | assumption | omega)) (by rfl) ?_)
    | (refine s1_call ?_; first | (refine sc_w (by rfl) (W_append1 (by rfl) (by rfl) (by focus ((repeat (first | exact Rem.here | apply Rem.there)); done)) (by infer_instance) (by rfl) (by rfl) (by first | assumption | omega)) (by rfl) ?_; rintro _ _ rfl) | refine sc_r (R_len (by rfl)) (by rfl) ?_ | refine sc_r (R_len_str (by rfl)) (by rfl) ?_)
    | (refine s1_indexAddr ?_; first | refine sc_r (R_indexAddr (by rfl) (by rfl) (by omega)) (by rfl) ?_ | refine sc_r (R_indexAddr_arr (by rfl) (by rfl) (by omega)) (by rfl) ?_)
    | (refine s1_store ?_; first | (refine sc_w (by rfl) (W_storeAll (by rfl) (by rfl) (by infer_instance) (by rfl) (by rfl) (by rfl)) (by rfl) ?_; rintro _ _ ⟨rfl, rfl⟩) | (refine sc_w (by rfl) (W_storeL (by rfl) (by rfl) (by infer_instance) (by rfl) (by rfl) (by rfl)) (by rfl) ?_; rintro _ _ ⟨rfl, rfl⟩) | (refine sc_w (by rfl) (W_store1 (by rfl) (by rfl) (by infer_instance) (by rfl) (by assumption) (by rfl)) (by rfl) ?_; rintro _ _ ⟨rfl, rfl⟩))
    | (refine s1_alloc ?_; first | (refine sc_w (by rfl) W_allocA (by rfl) ?_; rintro _ _ ⟨_, rfl, rfl⟩) | (refine sc_w (by rfl) (W_alloc1 (by rfl)) (by rfl) ?_; rintro _ _ ⟨_, rfl, rfl⟩))
    | (refine s1_box ?_; first | (refine sc_w (by rfl) (W_boxA (by rfl)) (by rfl) ?_; rintro _ _ ⟨_, rfl, rfl⟩) | (refine sc_w (by rfl) (W_box1 (by rfl) (by rfl)) (by rfl) ?_; rintro _ _ ⟨_, rfl, rfl⟩))
    | (refine s1_conv ?_; first | refine sc_r (R_conv64 (by rfl) (by omega)) (by rfl) ?_)
    | (refine s1_slice ?_; first | refine sc_r (R_slice_h (by rfl) (by rfl) (by omega)) (by rfl) ?_ | refine sc_r (R_slice_l (by rfl) (by rfl) (by omega)) (by rfl) ?_ | refine sc_r (R_slice_lh (by rfl) (by rfl) (by rfl) (by omega)) (by rfl) ?_)
    | (refine s1_any ?_; first | refine sc_r (R_not (by rfl)) (by rfl) ?_ | refine sc_r (R_extract (by rfl) (by rfl)) (by rfl) ?_ | (refine sc_w (by rfl) (W_buildSlice1 (by rfl) (by rfl) (by rfl) (by rfl) (by rfl)) (by rfl) ?_; rintro _ _ ⟨_, rfl, rfl⟩) | (refine sc_w (by rfl) (W_buildSlice1s (by rfl) (by rfl)) (by rfl) ?_; rintro _ _ ⟨_, rfl, rfl⟩) | (refine sc_w (by rfl) (W_buildSlice (by rfl) (by rfl) (by rfl) (by rfl)) (by rfl) ?_; rintro _ _ ⟨_, rfl, rfl⟩) | refine sc_r (R_build (by rfl) (by rfl)) (by rfl) ?_ | refine sc_r (R_nilCheck (by rfl)) (by rfl) ?_ | refine sc_r (R_nilCheck_func (by rfl)) (by rfl) ?_ | (refine sc_w (by rfl) W_makeMap (by rfl) ?_; rintro _ _ ⟨_, rfl, rfl⟩) | refine sc_r (R_makeInterface (by rfl)) (by rfl) ?_ | refine sc_r (R_makeFunc (by rfl) (by rfl)) (by rfl) ?_)
    | refine swl_nil ?_
    | refine sx_next ?_
    | refine sw_seq ?_
    | refine sw_region ?_
    | refine sw_block ?_
    | refine swl_g_on (by rfl) (by rfl) ?_
    | refine swl_g_off (by rfl) (by rfl) (by rfl) (by rfl) ?_
    | refine swl_g_un (by rfl) (by rfl) (by rfl) ?_
    | refine swl_g_pos (by rfl) (by rfl) (by first | assumption | omega) ?_
    | refine swl_g_neg (by rfl) (by rfl) (by first | assumption | omega) ?_
    | refine swl_g_npos (by rfl) (by rfl) (by first | assumption | omega) ?_
    | refine swl_g_nneg (by rfl) (by rfl) (by first | assumption | omega) ?_
    | refine swl_g_dec (by rfl) (by rfl) (fun hp => ?_) (fun hp => ?_)
    | refine swl_g_ndec (by rfl) (by rfl) (fun hp => ?_) (fun hp => ?_)
    | refine swl_g_bool (by rfl) (by rfl) (fun hp => ?_) (fun hp => ?_)
    | refine sx_past_ret ?_
    | refine sx_past_exit ?_
    | refine sx_block_normal ?_
    | refine sx_block_ret ?_
    | refine sx_block_here ?_
    | refine sx_block_past (by rfl) ?_
    | refine sw_cond_true (by rfl) ?_
    | refine sw_cond_false (by rfl) ?_
    | refine sw_cond_pos (by rfl) (by first | assumption | omega) ?_
    | refine sw_cond_neg (by rfl) (by first | assumption | omega) ?_
    | refine sw_cond_npos (by rfl) (by first | assumption | omega) ?_
    | refine sw_cond_nneg (by rfl) (by first | assumption | omega) ?_
    | refine sw_cond_dec (by rfl) (fun hp => ?_) (fun hp => ?_)
    | refine sw_cond_not (by rfl) (fun hp => ?_) (fun hp => ?_)
    | refine sw_cond_bool (by rfl) (fun hp => ?_) (fun hp => ?_)
    | refine sw_ret ?_
    | refine sw_exit ?_
    | refine sw_skip ?_)
        -- the cold files, one by one
        refine sw_loop (γ := Nat) (fun g => c.length - g) (fun g => [(6, .int .i64 need), (7, .slice pg G.length cg), (13, .slice pc c.length cc), (15, .int .i64 (sumB G)), (16, .int .i64 (sumB (c.take g))), (18, .int .i64 g)])
          (fun _ => vec 37 3 (c.map Heat.cells) (.slice pc c.length cc) :: vec 37 3 (G.map Heat.cells) (.slice pg2 G.length cg2) :: vec 37 3 (l1.reverse.map Heat.cells) (.slice pr l1.reverse.length cr) :: vec 37 3 (G.map Heat.cells) (.slice pg G.length cg) :: L) (fun g => g ≤ c.length) 0 (by omega)
          (by exact subE.cons rfl (subE.cons rfl (subE.cons rfl (subE.cons rfl (subE.cons rfl (subE.cons rfl subE.nil)))))) (by (repeat (first | exact Ent.refl _ | exact Ent.nil | (apply Ent.pick; focus ((repeat (first | exact Rem.here | apply Rem.there)); done)) | apply Ent.drop))) ?_
        intro k hk
        have hGb0 := hGb G.length
        have hcb0 := hcbd c.length
        rw [List.take_length] at hGb0 hcb0
        by_cases hlt3 : k < c.length
        · obtain ⟨b2, o2, rfl⟩ := hfc.ptr (by omega)
          have he2 := heats_get hlt3
          have hts := sumB_take_succ hlt3
          have hp1 := hcb _ (List.getElem_mem hlt3)
          have hb1 := hcbd k
          have hl41 : (c.take k).length ≤ 41 := by simp; omega
          by_cases hfi : k + 1 < G.length
          · obtain ⟨b1, o1, rfl⟩ := hfg.ptr (by omega)
            have he1 := heats_get (show k < G.length by omega)
            have hxy := hfirm k hfi hlt3
            rw [hxy] at he1
            generalize hx : c[k] = x at *
            have hxx : x = x := rfl
            repeat' (first
    | refine swl_op ?_
    | (refine s1_move ?_; refine sc_r (R_move (by rfl)) (by rfl) ?_)
    | (refine s1_load ?_; first | refine sc_r (L_load' (by rfl) (by infer_instance) (by rfl)) (by rfl) ?_ | refine sc_r (L_load_all (by rfl) (by infer_instance) (by rfl)) (by rfl) ?_ | refine sc_r (L_load_el (by rfl) (by infer_instance) (by infer_instance) (by omega) (by first | assumption | rfl)) (by rfl) ?_ | refine sc_r (L_load_el1 (by rfl) (by infer_instance) (by omega) (by first | assumption | rfl)) (by rfl) ?_ | refine sc_r (L_load_elf (by rfl) (by infer_instance) (by omega) (by first | assumption | rfl) (by rfl) (by rfl)) (by rfl) ?_ | refine sc_r (L_load_agg (by rfl) (by infer_instance) (by assumption) (by assumption)) (by rfl) ?_ | refine sc_r (L_load (by rfl) (by infer_instance) (by assumption)) (by rfl) ?_)
    | (refine s1_fieldAddr ?_; refine sc_r (R_fieldAddr (by rfl)) (by rfl) ?_)
    | (refine s1_assign ?_; refine sc_r (R_assign (by rfl)) (by rfl) ?_)
    | (refine s1_pick ?_; first | refine sc_r (R_pick_t (by rfl) (by rfl)) (by rfl) ?_ | refine sc_r (R_pick_f (by rfl) (by rfl)) (by rfl) ?_)
    | (refine s1_bin ?_; first | refine sc_r (R_lss (by rfl) (by rfl)) (by rfl) ?_ | refine sc_r (R_add64 (by rfl) (by rfl) (by omega)) (by rfl) ?_ | refine sc_r (R_gtr (by rfl) (by rfl)) (by rfl) ?_ | refine sc_r (R_leq (by rfl) (by rfl)) (by rfl) ?_ | refine sc_r (R_geq (by rfl) (by rfl)) (by rfl) ?_ | refine sc_r (R_eql (by rfl) (by rfl)) (by rfl) ?_ | refine sc_r (R_neq (by rfl) (by rfl)) (by rfl) ?_ | refine sc_r (R_sub64 (by rfl) (by rfl) (by omega)) (by rfl) ?_ | refine sc_r (R_mul64 (by rfl) (by rfl) (by first | assumption | omega)) (by rfl) ?_ | refine sc_r (R_eql_st (by rfl) (by rfl) Try.eqGuardType37 (eqIn_Heat x x)) (by rfl) ?_)
    | (refine s1_call ?_; first | (refine sc_w (by rfl) (W_append1 (by rfl) (by rfl) (by focus ((repeat (first | exact Rem.here | apply Rem.there)); done)) (by infer_instance) (by rfl) (by rfl) (by first | assumption | omega)) (by rfl) ?_; rintro _ _ rfl) | refine sc_r (R_len (by rfl)) (by rfl) ?_ | refine sc_r (R_len_str (by rfl)) (by rfl) ?_)
    | (refine s1_indexAddr ?_; first | refine sc_r (R_indexAddr (by rfl) (by rfl) (by omega)) (by rfl) ?_ | refine sc_r (R_indexAddr_arr (by rfl) (by rfl) (by omega)) (by rfl) ?_)
    | (refine s1_store ?_; first | (refine sc_w (by rfl) (W_storeAll (by rfl) (by rfl) (by infer_instance) (by rfl) (by rfl) (by rfl)) (by rfl) ?_; rintro _ _ ⟨rfl, rfl⟩) | (refine sc_w (by rfl) (W_storeL (by rfl) (by rfl) (by infer_instance) (by rfl) (by rfl) (by rfl)) (by rfl) ?_; rintro _ _ ⟨rfl, rfl⟩) | (refine sc_w (by rfl) (W_store1 (by rfl) (by rfl) (by infer_instance) (by rfl) (by assumption) (by rfl)) (by rfl) ?_; rintro _ _ ⟨rfl, rfl⟩))
    | (refine s1_alloc ?_; first | (refine sc_w (by rfl) W_allocA (by rfl) ?_; rintro _ _ ⟨_, rfl, rfl⟩) | (refine sc_w (by rfl) (W_alloc1 (by rfl)) (by rfl) ?_; rintro _ _ ⟨_, rfl, rfl⟩))
    | (refine s1_box ?_; first | (refine sc_w (by rfl) (W_boxA (by rfl)) (by rfl) ?_; rintro _ _ ⟨_, rfl, rfl⟩) | (refine sc_w (by rfl) (W_box1 (by rfl) (by rfl)) (by rfl) ?_; rintro _ _ ⟨_, rfl, rfl⟩))
    | (refine s1_conv ?_; first | refine sc_r (R_conv64 (by rfl) (by omega)) (by rfl) ?_)
    | (refine s1_slice ?_; first | refine sc_r (R_slice_h (by rfl) (by rfl) (by omega)) (by rfl) ?_ | refine sc_r (R_slice_l (by rfl) (by rfl) (by omega)) (by rfl) ?_ | refine sc_r (R_slice_lh (by rfl) (by rfl) (by rfl) (by omega)) (by rfl) ?_)
    | (refine s1_any ?_; first | refine sc_r (R_not (by rfl)) (by rfl) ?_ | refine sc_r (R_extract (by rfl) (by rfl)) (by rfl) ?_ | (refine sc_w (by rfl) (W_buildSlice1 (by rfl) (by rfl) (by rfl) (by rfl) (by rfl)) (by rfl) ?_; rintro _ _ ⟨_, rfl, rfl⟩) | (refine sc_w (by rfl) (W_buildSlice1s (by rfl) (by rfl)) (by rfl) ?_; rintro _ _ ⟨_, rfl, rfl⟩) | (refine sc_w (by rfl) (W_buildSlice (by rfl) (by rfl) (by rfl) (by rfl)) (by rfl) ?_; rintro _ _ ⟨_, rfl, rfl⟩) | refine sc_r (R_build (by rfl) (by rfl)) (by rfl) ?_ | refine sc_r (R_nilCheck (by rfl)) (by rfl) ?_ | refine sc_r (R_nilCheck_func (by rfl)) (by rfl) ?_ | (refine sc_w (by rfl) W_makeMap (by rfl) ?_; rintro _ _ ⟨_, rfl, rfl⟩) | refine sc_r (R_makeInterface (by rfl)) (by rfl) ?_ | refine sc_r (R_makeFunc (by rfl) (by rfl)) (by rfl) ?_)
    | refine swl_nil ?_
    | refine sx_next ?_
    | refine sw_seq ?_
    | refine sw_region ?_
    | refine sw_block ?_
    | refine swl_g_on (by rfl) (by rfl) ?_
    | refine swl_g_off (by rfl) (by rfl) (by rfl) (by rfl) ?_
    | refine swl_g_un (by rfl) (by rfl) (by rfl) ?_
    | refine swl_g_pos (by rfl) (by rfl) (by first | assumption | omega) ?_
    | refine swl_g_neg (by rfl) (by rfl) (by first | assumption | omega) ?_
    | refine swl_g_npos (by rfl) (by rfl) (by first | assumption | omega) ?_
    | refine swl_g_nneg (by rfl) (by rfl) (by first | assumption | omega) ?_
    | refine swl_g_dec (by rfl) (by rfl) (fun hp => ?_) (fun hp => ?_)
    | refine swl_g_ndec (by rfl) (by rfl) (fun hp => ?_) (fun hp => ?_)
    | refine swl_g_bool (by rfl) (by rfl) (fun hp => ?_) (fun hp => ?_)
    | refine sx_past_ret ?_
    | refine sx_past_exit ?_
    | refine sx_block_normal ?_
    | refine sx_block_ret ?_
    | refine sx_block_here ?_
    | refine sx_block_past (by rfl) ?_
    | refine sw_cond_true (by rfl) ?_
    | refine sw_cond_false (by rfl) ?_
    | refine sw_cond_pos (by rfl) (by first | assumption | omega) ?_
    | refine sw_cond_neg (by rfl) (by first | assumption | omega) ?_
    | refine sw_cond_npos (by rfl) (by first | assumption | omega) ?_
    | refine sw_cond_nneg (by rfl) (by first | assumption | omega) ?_
    | refine sw_cond_dec (by rfl) (fun hp => ?_) (fun hp => ?_)
    | refine sw_cond_not (by rfl) (fun hp => ?_) (fun hp => ?_)
    | refine sw_cond_bool (by rfl) (fun hp => ?_) (fun hp => ?_)
    | refine sw_ret ?_
    | refine sw_exit ?_
    | refine sw_skip ?_
    | refine swh_lt (by rfl) (fun _ _ => wanted_none) ?_
    | refine swh_lt (by rfl) (wanted_on (by rfl) (by rfl)) ?_
    | refine swh_off (by rfl) (by rfl) (by rfl) (by rfl) (by rfl) ?_
    | refine swh_heavy_off (by rfl) (by rfl) (by rfl) (by rfl) (by rfl) ?_
    | refine swh_un (by rfl) (by rfl) (by rfl) (by rfl) ?_
    | refine swh_heavy_un (by rfl) (by rfl) (by rfl) (by rfl) ?_
    | refine swh_hv (by rfl) (fun _ _ => wanted_none) ?_
    | refine swh_hv (by rfl) (wanted_on (by rfl) (by rfl)) ?_
    | refine swh_g_pos (by rfl) (by rfl) (by rfl) (by first | assumption | omega) ?_
    | refine swh_g_neg (by rfl) (by rfl) (by rfl) (by first | assumption | omega) ?_
    | refine swh_g_npos (by rfl) (by rfl) (by rfl) (by first | assumption | omega) ?_
    | refine swh_g_nneg (by rfl) (by rfl) (by rfl) (by first | assumption | omega) ?_
    | refine swh_g_dec (by rfl) (by rfl) (by rfl) (fun hp => ?_) (fun hp => ?_)
    | refine swh_g_ndec (by rfl) (by rfl) (by rfl) (fun hp => ?_) (fun hp => ?_)
    | refine swh_g_bool (by rfl) (by rfl) (by rfl) (fun hp => ?_) (fun hp => ?_)
    | refine swh_nil ?_
    | (apply And.intro; focus ((repeat (first | exact Ent.refl _ | exact Ent.nil | (apply Ent.pick; focus ((repeat (first | exact Rem.here | apply Rem.there)); done)) | apply Ent.drop)); done))
    | (refine sw_draw [(0, true), (1, true), (2, true), (3, true), (4, true), (5, true), (6, true), (7, true), (8, true), (9, true), (10, true), (11, true), (12, true), (13, true), (14, true), (15, true)] follows ?_ ?_ ?_; (focus rfl); (focus (decide +kernel))))
            refine sw_loop (γ := Nat) (fun g => G.length - g) (fun g => [(6, .int .i64 need), (7, .slice (some ⟨b1, o1, none⟩) G.length cg), (13, .slice (some ⟨b2, o2, none⟩) c.length cc), (15, .int .i64 (sumB G)), (16, .int .i64 (sumB (c.take k) + x.blocks)), (18, .int .i64 k), (19, .bool (decide (x = x))), (20, .int .i64 g)])
              (fun _ => vec 37 3 (c.map Heat.cells) (.slice (some ⟨b2, o2, none⟩) c.length cc) :: vec 37 3 (G.map Heat.cells) (.slice pg2 G.length cg2) :: vec 37 3 (l1.reverse.map Heat.cells) (.slice pr l1.reverse.length cr) :: vec 37 3 (G.map Heat.cells) (.slice (some ⟨b1, o1, none⟩) G.length cg) :: L) (fun g => g ≤ G.length) (k + 1) (by omega)
              (by exact subE.cons rfl (subE.cons rfl (subE.cons rfl (subE.cons rfl (subE.cons rfl (subE.cons rfl (subE.cons rfl (subE.cons rfl subE.nil)))))))) (by (repeat (first | exact Ent.refl _ | exact Ent.nil | (apply Ent.pick; focus ((repeat (first | exact Rem.here | apply Rem.there)); done)) | apply Ent.drop))) ?_
            intro j hj
            by_cases hlj : j < G.length
            · repeat' (first
    | refine swl_op ?_
    | (refine s1_move ?_; refine sc_r (R_move (by rfl)) (by rfl) ?_)
    | (refine s1_load ?_; first | refine sc_r (L_load' (by rfl) (by infer_instance) (by rfl)) (by rfl) ?_ | refine sc_r (L_load_all (by rfl) (by infer_instance) (by rfl)) (by rfl) ?_ | refine sc_r (L_load_el (by rfl) (by infer_instance) (by infer_instance) (by omega) (by first | assumption | rfl)) (by rfl) ?_ | refine sc_r (L_load_el1 (by rfl) (by infer_instance) (by omega) (by first | assumption | rfl)) (by rfl) ?_ | refine sc_r (L_load_elf (by rfl) (by infer_instance) (by omega) (by first | assumption | rfl) (by rfl) (by rfl)) (by rfl) ?_ | refine sc_r (L_load_agg (by rfl) (by infer_instance) (by assumption) (by assumption)) (by rfl) ?_ | refine sc_r (L_load (by rfl) (by infer_instance) (by assumption)) (by rfl) ?_)
    | (refine s1_fieldAddr ?_; refine sc_r (R_fieldAddr (by rfl)) (by rfl) ?_)
    | (refine s1_assign ?_; refine sc_r (R_assign (by rfl)) (by rfl) ?_)
    | (refine s1_pick ?_; first | refine sc_r (R_pick_t (by rfl) (by rfl)) (by rfl) ?_ | refine sc_r (R_pick_f (by rfl) (by rfl)) (by rfl) ?_)
    | (refine s1_bin ?_; first | refine sc_r (R_lss (by rfl) (by rfl)) (by rfl) ?_ | refine sc_r (R_add64 (by rfl) (by rfl) (by omega)) (by rfl) ?_ | refine sc_r (R_gtr (by rfl) (by rfl)) (by rfl) ?_ | refine sc_r (R_leq (by rfl) (by rfl)) (by rfl) ?_ | refine sc_r (R_geq (by rfl) (by rfl)) (by rfl) ?_ | refine sc_r (R_eql (by rfl) (by rfl)) (by rfl) ?_ | refine sc_r (R_neq (by rfl) (by rfl)) (by rfl) ?_ | refine sc_r (R_sub64 (by rfl) (by rfl) (by omega)) (by rfl) ?_ | refine sc_r (R_mul64 (by rfl) (by rfl) (by first | assumption | omega)) (by rfl) ?_)
    | (refine s1_call ?_; first | (refine sc_w (by rfl) (W_append1 (by rfl) (by rfl) (by focus ((repeat (first | exact Rem.here | apply Rem.there)); done)) (by infer_instance) (by rfl) (by rfl) (by first | assumption | omega)) (by rfl) ?_; rintro _ _ rfl) | refine sc_r (R_len (by rfl)) (by rfl) ?_ | refine sc_r (R_len_str (by rfl)) (by rfl) ?_)
    | (refine s1_indexAddr ?_; first | refine sc_r (R_indexAddr (by rfl) (by rfl) (by omega)) (by rfl) ?_ | refine sc_r (R_indexAddr_arr (by rfl) (by rfl) (by omega)) (by rfl) ?_)
    | (refine s1_store ?_; first | (refine sc_w (by rfl) (W_storeAll (by rfl) (by rfl) (by infer_instance) (by rfl) (by rfl) (by rfl)) (by rfl) ?_; rintro _ _ ⟨rfl, rfl⟩) | (refine sc_w (by rfl) (W_storeL (by rfl) (by rfl) (by infer_instance) (by rfl) (by rfl) (by rfl)) (by rfl) ?_; rintro _ _ ⟨rfl, rfl⟩) | (refine sc_w (by rfl) (W_store1 (by rfl) (by rfl) (by infer_instance) (by rfl) (by assumption) (by rfl)) (by rfl) ?_; rintro _ _ ⟨rfl, rfl⟩))
    | (refine s1_alloc ?_; first | (refine sc_w (by rfl) W_allocA (by rfl) ?_; rintro _ _ ⟨_, rfl, rfl⟩) | (refine sc_w (by rfl) (W_alloc1 (by rfl)) (by rfl) ?_; rintro _ _ ⟨_, rfl, rfl⟩))
    | (refine s1_box ?_; first | (refine sc_w (by rfl) (W_boxA (by rfl)) (by rfl) ?_; rintro _ _ ⟨_, rfl, rfl⟩) | (refine sc_w (by rfl) (W_box1 (by rfl) (by rfl)) (by rfl) ?_; rintro _ _ ⟨_, rfl, rfl⟩))
    | (refine s1_conv ?_; first | refine sc_r (R_conv64 (by rfl) (by omega)) (by rfl) ?_)
    | (refine s1_slice ?_; first | refine sc_r (R_slice_h (by rfl) (by rfl) (by omega)) (by rfl) ?_ | refine sc_r (R_slice_l (by rfl) (by rfl) (by omega)) (by rfl) ?_ | refine sc_r (R_slice_lh (by rfl) (by rfl) (by rfl) (by omega)) (by rfl) ?_)
    | (refine s1_any ?_; first | refine sc_r (R_not (by rfl)) (by rfl) ?_ | refine sc_r (R_extract (by rfl) (by rfl)) (by rfl) ?_ | (refine sc_w (by rfl) (W_buildSlice1 (by rfl) (by rfl) (by rfl) (by rfl) (by rfl)) (by rfl) ?_; rintro _ _ ⟨_, rfl, rfl⟩) | (refine sc_w (by rfl) (W_buildSlice1s (by rfl) (by rfl)) (by rfl) ?_; rintro _ _ ⟨_, rfl, rfl⟩) | (refine sc_w (by rfl) (W_buildSlice (by rfl) (by rfl) (by rfl) (by rfl)) (by rfl) ?_; rintro _ _ ⟨_, rfl, rfl⟩) | refine sc_r (R_build (by rfl) (by rfl)) (by rfl) ?_ | refine sc_r (R_nilCheck (by rfl)) (by rfl) ?_ | refine sc_r (R_nilCheck_func (by rfl)) (by rfl) ?_ | (refine sc_w (by rfl) W_makeMap (by rfl) ?_; rintro _ _ ⟨_, rfl, rfl⟩) | refine sc_r (R_makeInterface (by rfl)) (by rfl) ?_ | refine sc_r (R_makeFunc (by rfl) (by rfl)) (by rfl) ?_)
    | refine swl_nil ?_
    | refine sx_next ?_
    | refine sw_seq ?_
    | refine sw_region ?_
    | refine sw_block ?_
    | refine swl_g_on (by rfl) (by rfl) ?_
    | refine swl_g_off (by rfl) (by rfl) (by rfl) (by rfl) ?_
    | refine swl_g_un (by rfl) (by rfl) (by rfl) ?_
    | refine swl_g_pos (by rfl) (by rfl) (by first | assumption | omega) ?_
    | refine swl_g_neg (by rfl) (by rfl) (by first | assumption | omega) ?_
    | refine swl_g_npos (by rfl) (by rfl) (by first | assumption | omega) ?_
    | refine swl_g_nneg (by rfl) (by rfl) (by first | assumption | omega) ?_
    | refine swl_g_dec (by rfl) (by rfl) (fun hp => ?_) (fun hp => ?_)
    | refine swl_g_ndec (by rfl) (by rfl) (fun hp => ?_) (fun hp => ?_)
    | refine swl_g_bool (by rfl) (by rfl) (fun hp => ?_) (fun hp => ?_)
    | refine sx_past_ret ?_
    | refine sx_past_exit ?_
    | refine sx_block_normal ?_
    | refine sx_block_ret ?_
    | refine sx_block_here ?_
    | refine sx_block_past (by rfl) ?_
    | refine sw_cond_true (by rfl) ?_
    | refine sw_cond_false (by rfl) ?_
    | refine sw_cond_pos (by rfl) (by first | assumption | omega) ?_
    | refine sw_cond_neg (by rfl) (by first | assumption | omega) ?_
    | refine sw_cond_npos (by rfl) (by first | assumption | omega) ?_
    | refine sw_cond_nneg (by rfl) (by first | assumption | omega) ?_
    | refine sw_cond_dec (by rfl) (fun hp => ?_) (fun hp => ?_)
    | refine sw_cond_not (by rfl) (fun hp => ?_) (fun hp => ?_)
    | refine sw_cond_bool (by rfl) (fun hp => ?_) (fun hp => ?_)
    | refine sw_ret ?_
    | refine sw_exit ?_
    | refine sw_skip ?_)
              refine sx_back (j + 1) (by omega) (by omega) (subE.cons rfl (subE.cons rfl (subE.cons rfl (subE.cons rfl (subE.cons rfl (subE.cons rfl (subE.cons rfl (subE.cons rfl subE.nil)))))))) (by (repeat (first | exact Ent.refl _ | exact Ent.nil | (apply Ent.pick; focus ((repeat (first | exact Rem.here | apply Rem.there)); done)) | apply Ent.drop)))
            · repeat' (first
    | refine swl_op ?_
    | (refine s1_move ?_; refine sc_r (R_move (by rfl)) (by rfl) ?_)
    | (refine s1_load ?_; first | refine sc_r (L_load' (by rfl) (by infer_instance) (by rfl)) (by rfl) ?_ | refine sc_r (L_load_all (by rfl) (by infer_instance) (by rfl)) (by rfl) ?_ | refine sc_r (L_load_el (by rfl) (by infer_instance) (by infer_instance) (by omega) (by first | assumption | rfl)) (by rfl) ?_ | refine sc_r (L_load_el1 (by rfl) (by infer_instance) (by omega) (by first | assumption | rfl)) (by rfl) ?_ | refine sc_r (L_load_elf (by rfl) (by infer_instance) (by omega) (by first | assumption | rfl) (by rfl) (by rfl)) (by rfl) ?_ | refine sc_r (L_load_agg (by rfl) (by infer_instance) (by assumption) (by assumption)) (by rfl) ?_ | refine sc_r (L_load (by rfl) (by infer_instance) (by assumption)) (by rfl) ?_)
    | (refine s1_fieldAddr ?_; refine sc_r (R_fieldAddr (by rfl)) (by rfl) ?_)
    | (refine s1_assign ?_; refine sc_r (R_assign (by rfl)) (by rfl) ?_)
    | (refine s1_pick ?_; first | refine sc_r (R_pick_t (by rfl) (by rfl)) (by rfl) ?_ | refine sc_r (R_pick_f (by rfl) (by rfl)) (by rfl) ?_)
    | (refine s1_bin ?_; first | refine sc_r (R_lss (by rfl) (by rfl)) (by rfl) ?_ | refine sc_r (R_add64 (by rfl) (by rfl) (by omega)) (by rfl) ?_ | refine sc_r (R_gtr (by rfl) (by rfl)) (by rfl) ?_ | refine sc_r (R_leq (by rfl) (by rfl)) (by rfl) ?_ | refine sc_r (R_geq (by rfl) (by rfl)) (by rfl) ?_ | refine sc_r (R_eql (by rfl) (by rfl)) (by rfl) ?_ | refine sc_r (R_neq (by rfl) (by rfl)) (by rfl) ?_ | refine sc_r (R_sub64 (by rfl) (by rfl) (by omega)) (by rfl) ?_ | refine sc_r (R_mul64 (by rfl) (by rfl) (by first | assumption | omega)) (by rfl) ?_)
    | (refine s1_call ?_; first | (refine sc_w (by rfl) (W_append1 (by rfl) (by rfl) (by focus ((repeat (first | exact Rem.here | apply Rem.there)); done)) (by infer_instance) (by rfl) (by rfl) (by first | assumption | omega)) (by rfl) ?_; rintro _ _ rfl) | refine sc_r (R_len (by rfl)) (by rfl) ?_ | refine sc_r (R_len_str (by rfl)) (by rfl) ?_)
    | (refine s1_indexAddr ?_; first | refine sc_r (R_indexAddr (by rfl) (by rfl) (by omega)) (by rfl) ?_ | refine sc_r (R_indexAddr_arr (by rfl) (by rfl) (by omega)) (by rfl) ?_)
    | (refine s1_store ?_; first | (refine sc_w (by rfl) (W_storeAll (by rfl) (by rfl) (by infer_instance) (by rfl) (by rfl) (by rfl)) (by rfl) ?_; rintro _ _ ⟨rfl, rfl⟩) | (refine sc_w (by rfl) (W_storeL (by rfl) (by rfl) (by infer_instance) (by rfl) (by rfl) (by rfl)) (by rfl) ?_; rintro _ _ ⟨rfl, rfl⟩) | (refine sc_w (by rfl) (W_store1 (by rfl) (by rfl) (by infer_instance) (by rfl) (by assumption) (by rfl)) (by rfl) ?_; rintro _ _ ⟨rfl, rfl⟩))
    | (refine s1_alloc ?_; first | (refine sc_w (by rfl) W_allocA (by rfl) ?_; rintro _ _ ⟨_, rfl, rfl⟩) | (refine sc_w (by rfl) (W_alloc1 (by rfl)) (by rfl) ?_; rintro _ _ ⟨_, rfl, rfl⟩))
    | (refine s1_box ?_; first | (refine sc_w (by rfl) (W_boxA (by rfl)) (by rfl) ?_; rintro _ _ ⟨_, rfl, rfl⟩) | (refine sc_w (by rfl) (W_box1 (by rfl) (by rfl)) (by rfl) ?_; rintro _ _ ⟨_, rfl, rfl⟩))
    | (refine s1_conv ?_; first | refine sc_r (R_conv64 (by rfl) (by omega)) (by rfl) ?_)
    | (refine s1_slice ?_; first | refine sc_r (R_slice_h (by rfl) (by rfl) (by omega)) (by rfl) ?_ | refine sc_r (R_slice_l (by rfl) (by rfl) (by omega)) (by rfl) ?_ | refine sc_r (R_slice_lh (by rfl) (by rfl) (by rfl) (by omega)) (by rfl) ?_)
    | (refine s1_any ?_; first | refine sc_r (R_not (by rfl)) (by rfl) ?_ | refine sc_r (R_extract (by rfl) (by rfl)) (by rfl) ?_ | (refine sc_w (by rfl) (W_buildSlice1 (by rfl) (by rfl) (by rfl) (by rfl) (by rfl)) (by rfl) ?_; rintro _ _ ⟨_, rfl, rfl⟩) | (refine sc_w (by rfl) (W_buildSlice1s (by rfl) (by rfl)) (by rfl) ?_; rintro _ _ ⟨_, rfl, rfl⟩) | (refine sc_w (by rfl) (W_buildSlice (by rfl) (by rfl) (by rfl) (by rfl)) (by rfl) ?_; rintro _ _ ⟨_, rfl, rfl⟩) | refine sc_r (R_build (by rfl) (by rfl)) (by rfl) ?_ | refine sc_r (R_nilCheck (by rfl)) (by rfl) ?_ | refine sc_r (R_nilCheck_func (by rfl)) (by rfl) ?_ | (refine sc_w (by rfl) W_makeMap (by rfl) ?_; rintro _ _ ⟨_, rfl, rfl⟩) | refine sc_r (R_makeInterface (by rfl)) (by rfl) ?_ | refine sc_r (R_makeFunc (by rfl) (by rfl)) (by rfl) ?_)
    | refine swl_nil ?_
    | refine sx_next ?_
    | refine sw_seq ?_
    | refine sw_region ?_
    | refine sw_block ?_
    | refine swl_g_on (by rfl) (by rfl) ?_
    | refine swl_g_off (by rfl) (by rfl) (by rfl) (by rfl) ?_
    | refine swl_g_un (by rfl) (by rfl) (by rfl) ?_
    | refine swl_g_pos (by rfl) (by rfl) (by first | assumption | omega) ?_
    | refine swl_g_neg (by rfl) (by rfl) (by first | assumption | omega) ?_
    | refine swl_g_npos (by rfl) (by rfl) (by first | assumption | omega) ?_
    | refine swl_g_nneg (by rfl) (by rfl) (by first | assumption | omega) ?_
    | refine swl_g_dec (by rfl) (by rfl) (fun hp => ?_) (fun hp => ?_)
    | refine swl_g_ndec (by rfl) (by rfl) (fun hp => ?_) (fun hp => ?_)
    | refine swl_g_bool (by rfl) (by rfl) (fun hp => ?_) (fun hp => ?_)
    | refine sx_past_ret ?_
    | refine sx_past_exit ?_
    | refine sx_block_normal ?_
    | refine sx_block_ret ?_
    | refine sx_block_here ?_
    | refine sx_block_past (by rfl) ?_
    | refine sw_cond_true (by rfl) ?_
    | refine sw_cond_false (by rfl) ?_
    | refine sw_cond_pos (by rfl) (by first | assumption | omega) ?_
    | refine sw_cond_neg (by rfl) (by first | assumption | omega) ?_
    | refine sw_cond_npos (by rfl) (by first | assumption | omega) ?_
    | refine sw_cond_nneg (by rfl) (by first | assumption | omega) ?_
    | refine sw_cond_dec (by rfl) (fun hp => ?_) (fun hp => ?_)
    | refine sw_cond_not (by rfl) (fun hp => ?_) (fun hp => ?_)
    | refine sw_cond_bool (by rfl) (fun hp => ?_) (fun hp => ?_)
    | refine sw_ret ?_
    | refine sw_exit ?_
    | refine sw_skip ?_)
              refine sx_back (k + 1) (by omega) (by omega) (by rw [hts]; exact subE.cons rfl (subE.cons rfl (subE.cons rfl (subE.cons rfl (subE.cons rfl (subE.cons rfl subE.nil)))))) (by (repeat (first | exact Ent.refl _ | exact Ent.nil | (apply Ent.pick; focus ((repeat (first | exact Rem.here | apply Rem.there)); done)) | apply Ent.drop)))
          · generalize hx : c[k] = x at *
            by_cases hin : k < G.length
            · obtain ⟨b1, o1, rfl⟩ := hfg.ptr (by omega)
              have he1 := heats_get hin
              generalize hy : G[k] = y at *
              repeat' (first
    | refine swl_op ?_
    | (refine s1_move ?_; refine sc_r (R_move (by rfl)) (by rfl) ?_)
    | (refine s1_load ?_; first | refine sc_r (L_load' (by rfl) (by infer_instance) (by rfl)) (by rfl) ?_ | refine sc_r (L_load_all (by rfl) (by infer_instance) (by rfl)) (by rfl) ?_ | refine sc_r (L_load_el (by rfl) (by infer_instance) (by infer_instance) (by omega) (by first | assumption | rfl)) (by rfl) ?_ | refine sc_r (L_load_el1 (by rfl) (by infer_instance) (by omega) (by first | assumption | rfl)) (by rfl) ?_ | refine sc_r (L_load_elf (by rfl) (by infer_instance) (by omega) (by first | assumption | rfl) (by rfl) (by rfl)) (by rfl) ?_ | refine sc_r (L_load_agg (by rfl) (by infer_instance) (by assumption) (by assumption)) (by rfl) ?_ | refine sc_r (L_load (by rfl) (by infer_instance) (by assumption)) (by rfl) ?_)
    | (refine s1_fieldAddr ?_; refine sc_r (R_fieldAddr (by rfl)) (by rfl) ?_)
    | (refine s1_assign ?_; refine sc_r (R_assign (by rfl)) (by rfl) ?_)
    | (refine s1_pick ?_; first | refine sc_r (R_pick_t (by rfl) (by rfl)) (by rfl) ?_ | refine sc_r (R_pick_f (by rfl) (by rfl)) (by rfl) ?_)
    | (refine s1_bin ?_; first | refine sc_r (R_lss (by rfl) (by rfl)) (by rfl) ?_ | refine sc_r (R_add64 (by rfl) (by rfl) (by omega)) (by rfl) ?_ | refine sc_r (R_gtr (by rfl) (by rfl)) (by rfl) ?_ | refine sc_r (R_leq (by rfl) (by rfl)) (by rfl) ?_ | refine sc_r (R_geq (by rfl) (by rfl)) (by rfl) ?_ | refine sc_r (R_eql (by rfl) (by rfl)) (by rfl) ?_ | refine sc_r (R_neq (by rfl) (by rfl)) (by rfl) ?_ | refine sc_r (R_sub64 (by rfl) (by rfl) (by omega)) (by rfl) ?_ | refine sc_r (R_mul64 (by rfl) (by rfl) (by first | assumption | omega)) (by rfl) ?_ | refine sc_r (R_eql_st (by rfl) (by rfl) Try.eqGuardType37 (eqIn_Heat y x)) (by rfl) ?_)
    | (refine s1_call ?_; first | (refine sc_w (by rfl) (W_append1 (by rfl) (by rfl) (by focus ((repeat (first | exact Rem.here | apply Rem.there)); done)) (by infer_instance) (by rfl) (by rfl) (by first | assumption | omega)) (by rfl) ?_; rintro _ _ rfl) | refine sc_r (R_len (by rfl)) (by rfl) ?_ | refine sc_r (R_len_str (by rfl)) (by rfl) ?_)
    | (refine s1_indexAddr ?_; first | refine sc_r (R_indexAddr (by rfl) (by rfl) (by omega)) (by rfl) ?_ | refine sc_r (R_indexAddr_arr (by rfl) (by rfl) (by omega)) (by rfl) ?_)
    | (refine s1_store ?_; first | (refine sc_w (by rfl) (W_storeAll (by rfl) (by rfl) (by infer_instance) (by rfl) (by rfl) (by rfl)) (by rfl) ?_; rintro _ _ ⟨rfl, rfl⟩) | (refine sc_w (by rfl) (W_storeL (by rfl) (by rfl) (by infer_instance) (by rfl) (by rfl) (by rfl)) (by rfl) ?_; rintro _ _ ⟨rfl, rfl⟩) | (refine sc_w (by rfl) (W_store1 (by rfl) (by rfl) (by infer_instance) (by rfl) (by assumption) (by rfl)) (by rfl) ?_; rintro _ _ ⟨rfl, rfl⟩))
    | (refine s1_alloc ?_; first | (refine sc_w (by rfl) W_allocA (by rfl) ?_; rintro _ _ ⟨_, rfl, rfl⟩) | (refine sc_w (by rfl) (W_alloc1 (by rfl)) (by rfl) ?_; rintro _ _ ⟨_, rfl, rfl⟩))
    | (refine s1_box ?_; first | (refine sc_w (by rfl) (W_boxA (by rfl)) (by rfl) ?_; rintro _ _ ⟨_, rfl, rfl⟩) | (refine sc_w (by rfl) (W_box1 (by rfl) (by rfl)) (by rfl) ?_; rintro _ _ ⟨_, rfl, rfl⟩))
    | (refine s1_conv ?_; first | refine sc_r (R_conv64 (by rfl) (by omega)) (by rfl) ?_)
    | (refine s1_slice ?_; first | refine sc_r (R_slice_h (by rfl) (by rfl) (by omega)) (by rfl) ?_ | refine sc_r (R_slice_l (by rfl) (by rfl) (by omega)) (by rfl) ?_ | refine sc_r (R_slice_lh (by rfl) (by rfl) (by rfl) (by omega)) (by rfl) ?_)
    | (refine s1_any ?_; first | refine sc_r (R_not (by rfl)) (by rfl) ?_ | refine sc_r (R_extract (by rfl) (by rfl)) (by rfl) ?_ | (refine sc_w (by rfl) (W_buildSlice1 (by rfl) (by rfl) (by rfl) (by rfl) (by rfl)) (by rfl) ?_; rintro _ _ ⟨_, rfl, rfl⟩) | (refine sc_w (by rfl) (W_buildSlice1s (by rfl) (by rfl)) (by rfl) ?_; rintro _ _ ⟨_, rfl, rfl⟩) | (refine sc_w (by rfl) (W_buildSlice (by rfl) (by rfl) (by rfl) (by rfl)) (by rfl) ?_; rintro _ _ ⟨_, rfl, rfl⟩) | refine sc_r (R_build (by rfl) (by rfl)) (by rfl) ?_ | refine sc_r (R_nilCheck (by rfl)) (by rfl) ?_ | refine sc_r (R_nilCheck_func (by rfl)) (by rfl) ?_ | (refine sc_w (by rfl) W_makeMap (by rfl) ?_; rintro _ _ ⟨_, rfl, rfl⟩) | refine sc_r (R_makeInterface (by rfl)) (by rfl) ?_ | refine sc_r (R_makeFunc (by rfl) (by rfl)) (by rfl) ?_)
    | refine swl_nil ?_
    | refine sx_next ?_
    | refine sw_seq ?_
    | refine sw_region ?_
    | refine sw_block ?_
    | refine swl_g_on (by rfl) (by rfl) ?_
    | refine swl_g_off (by rfl) (by rfl) (by rfl) (by rfl) ?_
    | refine swl_g_un (by rfl) (by rfl) (by rfl) ?_
    | refine swl_g_pos (by rfl) (by rfl) (by first | assumption | omega) ?_
    | refine swl_g_neg (by rfl) (by rfl) (by first | assumption | omega) ?_
    | refine swl_g_npos (by rfl) (by rfl) (by first | assumption | omega) ?_
    | refine swl_g_nneg (by rfl) (by rfl) (by first | assumption | omega) ?_
    | refine swl_g_dec (by rfl) (by rfl) (fun hp => ?_) (fun hp => ?_)
    | refine swl_g_ndec (by rfl) (by rfl) (fun hp => ?_) (fun hp => ?_)
    | refine swl_g_bool (by rfl) (by rfl) (fun hp => ?_) (fun hp => ?_)
    | refine sx_past_ret ?_
    | refine sx_past_exit ?_
    | refine sx_block_normal ?_
    | refine sx_block_ret ?_
    | refine sx_block_here ?_
    | refine sx_block_past (by rfl) ?_
    | refine sw_cond_true (by rfl) ?_
    | refine sw_cond_false (by rfl) ?_
    | refine sw_cond_pos (by rfl) (by first | assumption | omega) ?_
    | refine sw_cond_neg (by rfl) (by first | assumption | omega) ?_
    | refine sw_cond_npos (by rfl) (by first | assumption | omega) ?_
    | refine sw_cond_nneg (by rfl) (by first | assumption | omega) ?_
    | refine sw_cond_dec (by rfl) (fun hp => ?_) (fun hp => ?_)
    | refine sw_cond_not (by rfl) (fun hp => ?_) (fun hp => ?_)
    | refine sw_cond_bool (by rfl) (fun hp => ?_) (fun hp => ?_)
    | refine sw_ret ?_
    | refine sw_exit ?_
    | refine sw_skip ?_
    | refine swh_lt (by rfl) (fun _ _ => wanted_none) ?_
    | refine swh_lt (by rfl) (wanted_on (by rfl) (by rfl)) ?_
    | refine swh_off (by rfl) (by rfl) (by rfl) (by rfl) (by rfl) ?_
    | refine swh_heavy_off (by rfl) (by rfl) (by rfl) (by rfl) (by rfl) ?_
    | refine swh_un (by rfl) (by rfl) (by rfl) (by rfl) ?_
    | refine swh_heavy_un (by rfl) (by rfl) (by rfl) (by rfl) ?_
    | refine swh_hv (by rfl) (fun _ _ => wanted_none) ?_
    | refine swh_hv (by rfl) (wanted_on (by rfl) (by rfl)) ?_
    | refine swh_g_pos (by rfl) (by rfl) (by rfl) (by first | assumption | omega) ?_
    | refine swh_g_neg (by rfl) (by rfl) (by rfl) (by first | assumption | omega) ?_
    | refine swh_g_npos (by rfl) (by rfl) (by rfl) (by first | assumption | omega) ?_
    | refine swh_g_nneg (by rfl) (by rfl) (by rfl) (by first | assumption | omega) ?_
    | refine swh_g_dec (by rfl) (by rfl) (by rfl) (fun hp => ?_) (fun hp => ?_)
    | refine swh_g_ndec (by rfl) (by rfl) (by rfl) (fun hp => ?_) (fun hp => ?_)
    | refine swh_g_bool (by rfl) (by rfl) (by rfl) (fun hp => ?_) (fun hp => ?_)
    | refine swh_nil ?_
    | (apply And.intro; focus ((repeat (first | exact Ent.refl _ | exact Ent.nil | (apply Ent.pick; focus ((repeat (first | exact Rem.here | apply Rem.there)); done)) | apply Ent.drop)); done))
    | (refine sw_draw [(0, true), (1, true), (2, true), (3, true), (4, true), (5, true), (6, true), (7, true), (8, true), (9, true), (10, true), (11, true), (12, true), (13, true), (14, true), (15, true)] follows ?_ ?_ ?_; (focus rfl); (focus (decide +kernel))))
              refine sw_loop (γ := Unit) (fun _ => 0) (fun _ => [(6, .int .i64 need), (7, .slice (some ⟨b1, o1, none⟩) G.length cg), (13, .slice (some ⟨b2, o2, none⟩) c.length cc), (15, .int .i64 (sumB G)), (16, .int .i64 (sumB (c.take k) + x.blocks)), (18, .int .i64 k), (20, .int .i64 (k + 1 : Nat))])
                (fun _ => vec 37 3 (c.map Heat.cells) (.slice (some ⟨b2, o2, none⟩) c.length cc) :: vec 37 3 (G.map Heat.cells) (.slice pg2 G.length cg2) :: vec 37 3 (l1.reverse.map Heat.cells) (.slice pr l1.reverse.length cr) :: vec 37 3 (G.map Heat.cells) (.slice (some ⟨b1, o1, none⟩) G.length cg) :: L) (fun _ => True) () trivial
                (by exact subE.cons rfl (subE.cons rfl (subE.cons rfl (subE.cons rfl (subE.cons rfl (subE.cons rfl (subE.cons rfl subE.nil))))))) (by (repeat (first | exact Ent.refl _ | exact Ent.nil | (apply Ent.pick; focus ((repeat (first | exact Rem.here | apply Rem.there)); done)) | apply Ent.drop))) ?_
              intro _ _
              repeat' (first
    | refine swl_op ?_
    | (refine s1_move ?_; refine sc_r (R_move (by rfl)) (by rfl) ?_)
    | (refine s1_load ?_; first | refine sc_r (L_load' (by rfl) (by infer_instance) (by rfl)) (by rfl) ?_ | refine sc_r (L_load_all (by rfl) (by infer_instance) (by rfl)) (by rfl) ?_ | refine sc_r (L_load_el (by rfl) (by infer_instance) (by infer_instance) (by omega) (by first | assumption | rfl)) (by rfl) ?_ | refine sc_r (L_load_el1 (by rfl) (by infer_instance) (by omega) (by first | assumption | rfl)) (by rfl) ?_ | refine sc_r (L_load_elf (by rfl) (by infer_instance) (by omega) (by first | assumption | rfl) (by rfl) (by rfl)) (by rfl) ?_ | refine sc_r (L_load_agg (by rfl) (by infer_instance) (by assumption) (by assumption)) (by rfl) ?_ | refine sc_r (L_load (by rfl) (by infer_instance) (by assumption)) (by rfl) ?_)
    | (refine s1_fieldAddr ?_; refine sc_r (R_fieldAddr (by rfl)) (by rfl) ?_)
    | (refine s1_assign ?_; refine sc_r (R_assign (by rfl)) (by rfl) ?_)
    | (refine s1_pick ?_; first | refine sc_r (R_pick_t (by rfl) (by rfl)) (by rfl) ?_ | refine sc_r (R_pick_f (by rfl) (by rfl)) (by rfl) ?_)
    | (refine s1_bin ?_; first | refine sc_r (R_lss (by rfl) (by rfl)) (by rfl) ?_ | refine sc_r (R_add64 (by rfl) (by rfl) (by omega)) (by rfl) ?_ | refine sc_r (R_gtr (by rfl) (by rfl)) (by rfl) ?_ | refine sc_r (R_leq (by rfl) (by rfl)) (by rfl) ?_ | refine sc_r (R_geq (by rfl) (by rfl)) (by rfl) ?_ | refine sc_r (R_eql (by rfl) (by rfl)) (by rfl) ?_ | refine sc_r (R_neq (by rfl) (by rfl)) (by rfl) ?_ | refine sc_r (R_sub64 (by rfl) (by rfl) (by omega)) (by rfl) ?_ | refine sc_r (R_mul64 (by rfl) (by rfl) (by first | assumption | omega)) (by rfl) ?_)
    | (refine s1_call ?_; first | (refine sc_w (by rfl) (W_append1 (by rfl) (by rfl) (by focus ((repeat (first | exact Rem.here | apply Rem.there)); done)) (by infer_instance) (by rfl) (by rfl) (by first | assumption | omega)) (by rfl) ?_; rintro _ _ rfl) | refine sc_r (R_len (by rfl)) (by rfl) ?_ | refine sc_r (R_len_str (by rfl)) (by rfl) ?_)
    | (refine s1_indexAddr ?_; first | refine sc_r (R_indexAddr (by rfl) (by rfl) (by omega)) (by rfl) ?_ | refine sc_r (R_indexAddr_arr (by rfl) (by rfl) (by omega)) (by rfl) ?_)
    | (refine s1_store ?_; first | (refine sc_w (by rfl) (W_storeAll (by rfl) (by rfl) (by infer_instance) (by rfl) (by rfl) (by rfl)) (by rfl) ?_; rintro _ _ ⟨rfl, rfl⟩) | (refine sc_w (by rfl) (W_storeL (by rfl) (by rfl) (by infer_instance) (by rfl) (by rfl) (by rfl)) (by rfl) ?_; rintro _ _ ⟨rfl, rfl⟩) | (refine sc_w (by rfl) (W_store1 (by rfl) (by rfl) (by infer_instance) (by rfl) (by assumption) (by rfl)) (by rfl) ?_; rintro _ _ ⟨rfl, rfl⟩))
    | (refine s1_alloc ?_; first | (refine sc_w (by rfl) W_allocA (by rfl) ?_; rintro _ _ ⟨_, rfl, rfl⟩) | (refine sc_w (by rfl) (W_alloc1 (by rfl)) (by rfl) ?_; rintro _ _ ⟨_, rfl, rfl⟩))
    | (refine s1_box ?_; first | (refine sc_w (by rfl) (W_boxA (by rfl)) (by rfl) ?_; rintro _ _ ⟨_, rfl, rfl⟩) | (refine sc_w (by rfl) (W_box1 (by rfl) (by rfl)) (by rfl) ?_; rintro _ _ ⟨_, rfl, rfl⟩))
    | (refine s1_conv ?_; first | refine sc_r (R_conv64 (by rfl) (by omega)) (by rfl) ?_)
    | (refine s1_slice ?_; first | refine sc_r (R_slice_h (by rfl) (by rfl) (by omega)) (by rfl) ?_ | refine sc_r (R_slice_l (by rfl) (by rfl) (by omega)) (by rfl) ?_ | refine sc_r (R_slice_lh (by rfl) (by rfl) (by rfl) (by omega)) (by rfl) ?_)
    | (refine s1_any ?_; first | refine sc_r (R_not (by rfl)) (by rfl) ?_ | refine sc_r (R_extract (by rfl) (by rfl)) (by rfl) ?_ | (refine sc_w (by rfl) (W_buildSlice1 (by rfl) (by rfl) (by rfl) (by rfl) (by rfl)) (by rfl) ?_; rintro _ _ ⟨_, rfl, rfl⟩) | (refine sc_w (by rfl) (W_buildSlice1s (by rfl) (by rfl)) (by rfl) ?_; rintro _ _ ⟨_, rfl, rfl⟩) | (refine sc_w (by rfl) (W_buildSlice (by rfl) (by rfl) (by rfl) (by rfl)) (by rfl) ?_; rintro _ _ ⟨_, rfl, rfl⟩) | refine sc_r (R_build (by rfl) (by rfl)) (by rfl) ?_ | refine sc_r (R_nilCheck (by rfl)) (by rfl) ?_ | refine sc_r (R_nilCheck_func (by rfl)) (by rfl) ?_ | (refine sc_w (by rfl) W_makeMap (by rfl) ?_; rintro _ _ ⟨_, rfl, rfl⟩) | refine sc_r (R_makeInterface (by rfl)) (by rfl) ?_ | refine sc_r (R_makeFunc (by rfl) (by rfl)) (by rfl) ?_)
    | refine swl_nil ?_
    | refine sx_next ?_
    | refine sw_seq ?_
    | refine sw_region ?_
    | refine sw_block ?_
    | refine swl_g_on (by rfl) (by rfl) ?_
    | refine swl_g_off (by rfl) (by rfl) (by rfl) (by rfl) ?_
    | refine swl_g_un (by rfl) (by rfl) (by rfl) ?_
    | refine swl_g_pos (by rfl) (by rfl) (by first | assumption | omega) ?_
    | refine swl_g_neg (by rfl) (by rfl) (by first | assumption | omega) ?_
    | refine swl_g_npos (by rfl) (by rfl) (by first | assumption | omega) ?_
    | refine swl_g_nneg (by rfl) (by rfl) (by first | assumption | omega) ?_
    | refine swl_g_dec (by rfl) (by rfl) (fun hp => ?_) (fun hp => ?_)
    | refine swl_g_ndec (by rfl) (by rfl) (fun hp => ?_) (fun hp => ?_)
    | refine swl_g_bool (by rfl) (by rfl) (fun hp => ?_) (fun hp => ?_)
    | refine sx_past_ret ?_
    | refine sx_past_exit ?_
    | refine sx_block_normal ?_
    | refine sx_block_ret ?_
    | refine sx_block_here ?_
    | refine sx_block_past (by rfl) ?_
    | refine sw_cond_true (by rfl) ?_
    | refine sw_cond_false (by rfl) ?_
    | refine sw_cond_pos (by rfl) (by first | assumption | omega) ?_
    | refine sw_cond_neg (by rfl) (by first | assumption | omega) ?_
    | refine sw_cond_npos (by rfl) (by first | assumption | omega) ?_
    | refine sw_cond_nneg (by rfl) (by first | assumption | omega) ?_
    | refine sw_cond_dec (by rfl) (fun hp => ?_) (fun hp => ?_)
    | refine sw_cond_not (by rfl) (fun hp => ?_) (fun hp => ?_)
    | refine sw_cond_bool (by rfl) (fun hp => ?_) (fun hp => ?_)
    | refine sw_ret ?_
    | refine sw_exit ?_
    | refine sw_skip ?_)
              refine sx_back (k + 1) (by omega) (by omega) (by rw [hts]; exact subE.cons rfl (subE.cons rfl (subE.cons rfl (subE.cons rfl (subE.cons rfl (subE.cons rfl subE.nil)))))) (by (repeat (first | exact Ent.refl _ | exact Ent.nil | (apply Ent.pick; focus ((repeat (first | exact Rem.here | apply Rem.there)); done)) | apply Ent.drop)))
            · repeat' (first
    | refine swl_op ?_
    | (refine s1_move ?_; refine sc_r (R_move (by rfl)) (by rfl) ?_)
    | (refine s1_load ?_; first | refine sc_r (L_load' (by rfl) (by infer_instance) (by rfl)) (by rfl) ?_ | refine sc_r (L_load_all (by rfl) (by infer_instance) (by rfl)) (by rfl) ?_ | refine sc_r (L_load_el (by rfl) (by infer_instance) (by infer_instance) (by omega) (by first | assumption | rfl)) (by rfl) ?_ | refine sc_r (L_load_el1 (by rfl) (by infer_instance) (by omega) (by first | assumption | rfl)) (by rfl) ?_ | refine sc_r (L_load_elf (by rfl) (by infer_instance) (by omega) (by first | assumption | rfl) (by rfl) (by rfl)) (by rfl) ?_ | refine sc_r (L_load_agg (by rfl) (by infer_instance) (by assumption) (by assumption)) (by rfl) ?_ | refine sc_r (L_load (by rfl) (by infer_instance) (by assumption)) (by rfl) ?_)
    | (refine s1_fieldAddr ?_; refine sc_r (R_fieldAddr (by rfl)) (by rfl) ?_)
    | (refine s1_assign ?_; refine sc_r (R_assign (by rfl)) (by rfl) ?_)
    | (refine s1_pick ?_; first | refine sc_r (R_pick_t (by rfl) (by rfl)) (by rfl) ?_ | refine sc_r (R_pick_f (by rfl) (by rfl)) (by rfl) ?_)
    | (refine s1_bin ?_; first | refine sc_r (R_lss (by rfl) (by rfl)) (by rfl) ?_ | refine sc_r (R_add64 (by rfl) (by rfl) (by omega)) (by rfl) ?_ | refine sc_r (R_gtr (by rfl) (by rfl)) (by rfl) ?_ | refine sc_r (R_leq (by rfl) (by rfl)) (by rfl) ?_ | refine sc_r (R_geq (by rfl) (by rfl)) (by rfl) ?_ | refine sc_r (R_eql (by rfl) (by rfl)) (by rfl) ?_ | refine sc_r (R_neq (by rfl) (by rfl)) (by rfl) ?_ | refine sc_r (R_sub64 (by rfl) (by rfl) (by omega)) (by rfl) ?_ | refine sc_r (R_mul64 (by rfl) (by rfl) (by first | assumption | omega)) (by rfl) ?_)
    | (refine s1_call ?_; first | (refine sc_w (by rfl) (W_append1 (by rfl) (by rfl) (by focus ((repeat (first | exact Rem.here | apply Rem.there)); done)) (by infer_instance) (by rfl) (by rfl) (by first | assumption | omega)) (by rfl) ?_; rintro _ _ rfl) | refine sc_r (R_len (by rfl)) (by rfl) ?_ | refine sc_r (R_len_str (by rfl)) (by rfl) ?_)
    | (refine s1_indexAddr ?_; first | refine sc_r (R_indexAddr (by rfl) (by rfl) (by omega)) (by rfl) ?_ | refine sc_r (R_indexAddr_arr (by rfl) (by rfl) (by omega)) (by rfl) ?_)
    | (refine s1_store ?_; first | (refine sc_w (by rfl) (W_storeAll (by rfl) (by rfl) (by infer_instance) (by rfl) (by rfl) (by rfl)) (by rfl) ?_; rintro _ _ ⟨rfl, rfl⟩) | (refine sc_w (by rfl) (W_storeL (by rfl) (by rfl) (by infer_instance) (by rfl) (by rfl) (by rfl)) (by rfl) ?_; rintro _ _ ⟨rfl, rfl⟩) | (refine sc_w (by rfl) (W_store1 (by rfl) (by rfl) (by infer_instance) (by rfl) (by assumption) (by rfl)) (by rfl) ?_; rintro _ _ ⟨rfl, rfl⟩))
    | (refine s1_alloc ?_; first | (refine sc_w (by rfl) W_allocA (by rfl) ?_; rintro _ _ ⟨_, rfl, rfl⟩) | (refine sc_w (by rfl) (W_alloc1 (by rfl)) (by rfl) ?_; rintro _ _ ⟨_, rfl, rfl⟩))
    | (refine s1_box ?_; first | (refine sc_w (by rfl) (W_boxA (by rfl)) (by rfl) ?_; rintro _ _ ⟨_, rfl, rfl⟩) | (refine sc_w (by rfl) (W_box1 (by rfl) (by rfl)) (by rfl) ?_; rintro _ _ ⟨_, rfl, rfl⟩))
    | (refine s1_conv ?_; first | refine sc_r (R_conv64 (by rfl) (by omega)) (by rfl) ?_)
    | (refine s1_slice ?_; first | refine sc_r (R_slice_h (by rfl) (by rfl) (by omega)) (by rfl) ?_ | refine sc_r (R_slice_l (by rfl) (by rfl) (by omega)) (by rfl) ?_ | refine sc_r (R_slice_lh (by rfl) (by rfl) (by rfl) (by omega)) (by rfl) ?_)
    | (refine s1_any ?_; first | refine sc_r (R_not (by rfl)) (by rfl) ?_ | refine sc_r (R_extract (by rfl) (by rfl)) (by rfl) ?_ | (refine sc_w (by rfl) (W_buildSlice1 (by rfl) (by rfl) (by rfl) (by rfl) (by rfl)) (by rfl) ?_; rintro _ _ ⟨_, rfl, rfl⟩) | (refine sc_w (by rfl) (W_buildSlice1s (by rfl) (by rfl)) (by rfl) ?_; rintro _ _ ⟨_, rfl, rfl⟩) | (refine sc_w (by rfl) (W_buildSlice (by rfl) (by rfl) (by rfl) (by rfl)) (by rfl) ?_; rintro _ _ ⟨_, rfl, rfl⟩) | refine sc_r (R_build (by rfl) (by rfl)) (by rfl) ?_ | refine sc_r (R_nilCheck (by rfl)) (by rfl) ?_ | refine sc_r (R_nilCheck_func (by rfl)) (by rfl) ?_ | (refine sc_w (by rfl) W_makeMap (by rfl) ?_; rintro _ _ ⟨_, rfl, rfl⟩) | refine sc_r (R_makeInterface (by rfl)) (by rfl) ?_ | refine sc_r (R_makeFunc (by rfl) (by rfl)) (by rfl) ?_)
    | refine swl_nil ?_
    | refine sx_next ?_
    | refine sw_seq ?_
    | refine sw_region ?_
    | refine sw_block ?_
    | refine swl_g_on (by rfl) (by rfl) ?_
    | refine swl_g_off (by rfl) (by rfl) (by rfl) (by rfl) ?_
    | refine swl_g_un (by rfl) (by rfl) (by rfl) ?_
    | refine swl_g_pos (by rfl) (by rfl) (by first | assumption | omega) ?_
    | refine swl_g_neg (by rfl) (by rfl) (by first | assumption | omega) ?_
    | refine swl_g_npos (by rfl) (by rfl) (by first | assumption | omega) ?_
    | refine swl_g_nneg (by rfl) (by rfl) (by first | assumption | omega) ?_
    | refine swl_g_dec (by rfl) (by rfl) (fun hp => ?_) (fun hp => ?_)
    | refine swl_g_ndec (by rfl) (by rfl) (fun hp => ?_) (fun hp => ?_)
    | refine swl_g_bool (by rfl) (by rfl) (fun hp => ?_) (fun hp => ?_)
    | refine sx_past_ret ?_
    | refine sx_past_exit ?_
    | refine sx_block_normal ?_
    | refine sx_block_ret ?_
    | refine sx_block_here ?_
    | refine sx_block_past (by rfl) ?_
    | refine sw_cond_true (by rfl) ?_
    | refine sw_cond_false (by rfl) ?_
    | refine sw_cond_pos (by rfl) (by first | assumption | omega) ?_
    | refine sw_cond_neg (by rfl) (by first | assumption | omega) ?_
    | refine sw_cond_npos (by rfl) (by first | assumption | omega) ?_
    | refine sw_cond_nneg (by rfl) (by first | assumption | omega) ?_
    | refine sw_cond_dec (by rfl) (fun hp => ?_) (fun hp => ?_)
    | refine sw_cond_not (by rfl) (fun hp => ?_) (fun hp => ?_)
    | refine sw_cond_bool (by rfl) (fun hp => ?_) (fun hp => ?_)
    | refine sw_ret ?_
    | refine sw_exit ?_
    | refine sw_skip ?_
    | refine swh_lt (by rfl) (fun _ _ => wanted_none) ?_
    | refine swh_lt (by rfl) (wanted_on (by rfl) (by rfl)) ?_
    | refine swh_off (by rfl) (by rfl) (by rfl) (by rfl) (by rfl) ?_
    | refine swh_heavy_off (by rfl) (by rfl) (by rfl) (by rfl) (by rfl) ?_
    | refine swh_un (by rfl) (by rfl) (by rfl) (by rfl) ?_
    | refine swh_heavy_un (by rfl) (by rfl) (by rfl) (by rfl) ?_
    | refine swh_hv (by rfl) (fun _ _ => wanted_none) ?_
    | refine swh_hv (by rfl) (wanted_on (by rfl) (by rfl)) ?_
    | refine swh_g_pos (by rfl) (by rfl) (by rfl) (by first | assumption | omega) ?_
    | refine swh_g_neg (by rfl) (by rfl) (by rfl) (by first | assumption | omega) ?_
    | refine swh_g_npos (by rfl) (by rfl) (by rfl) (by first | assumption | omega) ?_
    | refine swh_g_nneg (by rfl) (by rfl) (by rfl) (by first | assumption | omega) ?_
    | refine swh_g_dec (by rfl) (by rfl) (by rfl) (fun hp => ?_) (fun hp => ?_)
    | refine swh_g_ndec (by rfl) (by rfl) (by rfl) (fun hp => ?_) (fun hp => ?_)
    | refine swh_g_bool (by rfl) (by rfl) (by rfl) (fun hp => ?_) (fun hp => ?_)
    | refine swh_nil ?_
    | (apply And.intro; focus ((repeat (first | exact Ent.refl _ | exact Ent.nil | (apply Ent.pick; focus ((repeat (first | exact Rem.here | apply Rem.there)); done)) | apply Ent.drop)); done))
    | (refine sw_draw [(0, true), (1, true), (2, true), (3, true), (4, true), (5, true), (6, true), (7, true), (8, true), (9, true), (10, true), (11, true), (12, true), (13, true), (14, true), (15, true)] follows ?_ ?_ ?_; (focus rfl); (focus (decide +kernel))))
              refine sw_loop (γ := Unit) (fun _ => 0) (fun _ => [(6, .int .i64 need), (7, .slice pg G.length cg), (13, .slice (some ⟨b2, o2, none⟩) c.length cc), (15, .int .i64 (sumB G)), (16, .int .i64 (sumB (c.take k) + x.blocks)), (18, .int .i64 k), (20, .int .i64 (k + 1 : Nat))])
                (fun _ => vec 37 3 (c.map Heat.cells) (.slice (some ⟨b2, o2, none⟩) c.length cc) :: vec 37 3 (G.map Heat.cells) (.slice pg2 G.length cg2) :: vec 37 3 (l1.reverse.map Heat.cells) (.slice pr l1.reverse.length cr) :: vec 37 3 (G.map Heat.cells) (.slice pg G.length cg) :: L) (fun _ => True) () trivial
                (by exact subE.cons rfl (subE.cons rfl (subE.cons rfl (subE.cons rfl (subE.cons rfl (subE.cons rfl (subE.cons rfl subE.nil))))))) (by (repeat (first | exact Ent.refl _ | exact Ent.nil | (apply Ent.pick; focus ((repeat (first | exact Rem.here | apply Rem.there)); done)) | apply Ent.drop))) ?_
              intro _ _
              repeat' (first
    | refine swl_op ?_
    | (refine s1_move ?_; refine sc_r (R_move (by rfl)) (by rfl) ?_)
    | (refine s1_load ?_; first | refine sc_r (L_load' (by rfl) (by infer_instance) (by rfl)) (by rfl) ?_ | refine sc_r (L_load_all (by rfl) (by infer_instance) (by rfl)) (by rfl) ?_ | refine sc_r (L_load_el (by rfl) (by infer_instance) (by infer_instance) (by omega) (by first | assumption | rfl)) (by rfl) ?_ | refine sc_r (L_load_el1 (by rfl) (by infer_instance) (by omega) (by first | assumption | rfl)) (by rfl) ?_ | refine sc_r (L_load_elf (by rfl) (by infer_instance) (by omega) (by first | assumption | rfl) (by rfl) (by rfl)) (by rfl) ?_ | refine sc_r (L_load_agg (by rfl) (by infer_instance) (by assumption) (by assumption)) (by rfl) ?_ | refine sc_r (L_load (by rfl) (by infer_instance) (by assumption)) (by rfl) ?_)
    | (refine s1_fieldAddr ?_; refine sc_r (R_fieldAddr (by rfl)) (by rfl) ?_)
    | (refine s1_assign ?_; refine sc_r (R_assign (by rfl)) (by rfl) ?_)
    | (refine s1_pick ?_; first | refine sc_r (R_pick_t (by rfl) (by rfl)) (by rfl) ?_ | refine sc_r (R_pick_f (by rfl) (by rfl)) (by rfl) ?_)
    | (refine s1_bin ?_; first | refine sc_r (R_lss (by rfl) (by rfl)) (by rfl) ?_ | refine sc_r (R_add64 (by rfl) (by rfl) (by omega)) (by rfl) ?_ | refine sc_r (R_gtr (by rfl) (by rfl)) (by rfl) ?_ | refine sc_r (R_leq (by rfl) (by rfl)) (by rfl) ?_ | refine sc_r (R_geq (by rfl) (by rfl)) (by rfl) ?_ | refine sc_r (R_eql (by rfl) (by rfl)) (by rfl) ?_ | refine sc_r (R_neq (by rfl) (by rfl)) (by rfl) ?_ | refine sc_r (R_sub64 (by rfl) (by rfl) (by omega)) (by rfl) ?_ | refine sc_r (R_mul64 (by rfl) (by rfl) (by first | assumption | omega)) (by rfl) ?_)
    | (refine s1_call ?_; first | (refine sc_w (by rfl) (W_append1 (by rfl) (by rfl) (by focus ((repeat (first | exact Rem.here | apply Rem.there)); done)) (by infer_instance) (by rfl) (by rfl) (by first | assumption | omega)) (by rfl) ?_; rintro _ _ rfl) | refine sc_r (R_len (by rfl)) (by rfl) ?_ | refine sc_r (R_len_str (by rfl)) (by rfl) ?_)
    | (refine s1_indexAddr ?_; first | refine sc_r (R_indexAddr (by rfl) (by rfl) (by omega)) (by rfl) ?_ | refine sc_r (R_indexAddr_arr (by rfl) (by rfl) (by omega)) (by rfl) ?_)
    | (refine s1_store ?_; first | (refine sc_w (by rfl) (W_storeAll (by rfl) (by rfl) (by infer_instance) (by rfl) (by rfl) (by rfl)) (by rfl) ?_; rintro _ _ ⟨rfl, rfl⟩) | (refine sc_w (by rfl) (W_storeL (by rfl) (by rfl) (by infer_instance) (by rfl) (by rfl) (by rfl)) (by rfl) ?_; rintro _ _ ⟨rfl, rfl⟩) | (refine sc_w (by rfl) (W_store1 (by rfl) (by rfl) (by infer_instance) (by rfl) (by assumption) (by rfl)) (by rfl) ?_; rintro _ _ ⟨rfl, rfl⟩))
    | (refine s1_alloc ?_; first | (refine sc_w (by rfl) W_allocA (by rfl) ?_; rintro _ _ ⟨_, rfl, rfl⟩) | (refine sc_w (by rfl) (W_alloc1 (by rfl)) (by rfl) ?_; rintro _ _ ⟨_, rfl, rfl⟩))
    | (refine s1_box ?_; first | (refine sc_w (by rfl) (W_boxA (by rfl)) (by rfl) ?_; rintro _ _ ⟨_, rfl, rfl⟩) | (refine sc_w (by rfl) (W_box1 (by rfl) (by rfl)) (by rfl) ?_; rintro _ _ ⟨_, rfl, rfl⟩))
    | (refine s1_conv ?_; first | refine sc_r (R_conv64 (by rfl) (by omega)) (by rfl) ?_)
    | (refine s1_slice ?_; first | refine sc_r (R_slice_h (by rfl) (by rfl) (by omega)) (by rfl) ?_ | refine sc_r (R_slice_l (by rfl) (by rfl) (by omega)) (by rfl) ?_ | refine sc_r (R_slice_lh (by rfl) (by rfl) (by rfl) (by omega)) (by rfl) ?_)
    | (refine s1_any ?_; first | refine sc_r (R_not (by rfl)) (by rfl) ?_ | refine sc_r (R_extract (by rfl) (by rfl)) (by rfl) ?_ | (refine sc_w (by rfl) (W_buildSlice1 (by rfl) (by rfl) (by rfl) (by rfl) (by rfl)) (by rfl) ?_; rintro _ _ ⟨_, rfl, rfl⟩) | (refine sc_w (by rfl) (W_buildSlice1s (by rfl) (by rfl)) (by rfl) ?_; rintro _ _ ⟨_, rfl, rfl⟩) | (refine sc_w (by rfl) (W_buildSlice (by rfl) (by rfl) (by rfl) (by rfl)) (by rfl) ?_; rintro _ _ ⟨_, rfl, rfl⟩) | refine sc_r (R_build (by rfl) (by rfl)) (by rfl) ?_ | refine sc_r (R_nilCheck (by rfl)) (by rfl) ?_ | refine sc_r (R_nilCheck_func (by rfl)) (by rfl) ?_ | (refine sc_w (by rfl) W_makeMap (by rfl) ?_; rintro _ _ ⟨_, rfl, rfl⟩) | refine sc_r (R_makeInterface (by rfl)) (by rfl) ?_ | refine sc_r (R_makeFunc (by rfl) (by rfl)) (by rfl) ?_)
    | refine swl_nil ?_
    | refine sx_next ?_
    | refine sw_seq ?_
    | refine sw_region ?_
    | refine sw_block ?_
    | refine swl_g_on (by rfl) (by rfl) ?_
    | refine swl_g_off (by rfl) (by rfl) (by rfl) (by rfl) ?_
    | refine swl_g_un (by rfl) (by rfl) (by rfl) ?_
    | refine swl_g_pos (by rfl) (by rfl) (by first | assumption | omega) ?_
    | refine swl_g_neg (by rfl) (by rfl) (by first | assumption | omega) ?_
    | refine swl_g_npos (by rfl) (by rfl) (by first | assumption | omega) ?_
    | refine swl_g_nneg (by rfl) (by rfl) (by first | assumption | omega) ?_
    | refine swl_g_dec (by rfl) (by rfl) (fun hp => ?_) (fun hp => ?_)
    | refine swl_g_ndec (by rfl) (by rfl) (fun hp => ?_) (fun hp => ?_)
    | refine swl_g_bool (by rfl) (by rfl) (fun hp => ?_) (fun hp => ?_)
    | refine sx_past_ret ?_
    | refine sx_past_exit ?_
    | refine sx_block_normal ?_
    | refine sx_block_ret ?_
    | refine sx_block_here ?_
    | refine sx_block_past (by rfl) ?_
    | refine sw_cond_true (by rfl) ?_
    | refine sw_cond_false (by rfl) ?_
    | refine sw_cond_pos (by rfl) (by first | assumption | omega) ?_
    | refine sw_cond_neg (by rfl) (by first | assumption | omega) ?_
    | refine sw_cond_npos (by rfl) (by first | assumption | omega) ?_
    | refine sw_cond_nneg (by rfl) (by first | assumption | omega) ?_
    | refine sw_cond_dec (by rfl) (fun hp => ?_) (fun hp => ?_)
    | refine sw_cond_not (by rfl) (fun hp => ?_) (fun hp => ?_)
    | refine sw_cond_bool (by rfl) (fun hp => ?_) (fun hp => ?_)
    | refine sw_ret ?_
    | refine sw_exit ?_
    | refine sw_skip ?_)
              refine sx_back (k + 1) (by omega) (by omega) (by rw [hts]; exact subE.cons rfl (subE.cons rfl (subE.cons rfl (subE.cons rfl (subE.cons rfl (subE.cons rfl subE.nil)))))) (by (repeat (first | exact Ent.refl _ | exact Ent.nil | (apply Ent.pick; focus ((repeat (first | exact Rem.here | apply Rem.there)); done)) | apply Ent.drop)))
        · rw [show c.take k = c from List.take_of_length_le (by omega)]
          repeat' (first
    | refine swl_op ?_
    | (refine s1_move ?_; refine sc_r (R_move (by rfl)) (by rfl) ?_)
    | (refine s1_load ?_; first | refine sc_r (L_load' (by rfl) (by infer_instance) (by rfl)) (by rfl) ?_ | refine sc_r (L_load_all (by rfl) (by infer_instance) (by rfl)) (by rfl) ?_ | refine sc_r (L_load_el (by rfl) (by infer_instance) (by infer_instance) (by omega) (by first | assumption | rfl)) (by rfl) ?_ | refine sc_r (L_load_el1 (by rfl) (by infer_instance) (by omega) (by first | assumption | rfl)) (by rfl) ?_ | refine sc_r (L_load_elf (by rfl) (by infer_instance) (by omega) (by first | assumption | rfl) (by rfl) (by rfl)) (by rfl) ?_ | refine sc_r (L_load_agg (by rfl) (by infer_instance) (by assumption) (by assumption)) (by rfl) ?_ | refine sc_r (L_load (by rfl) (by infer_instance) (by assumption)) (by rfl) ?_)
    | (refine s1_fieldAddr ?_; refine sc_r (R_fieldAddr (by rfl)) (by rfl) ?_)
    | (refine s1_assign ?_; refine sc_r (R_assign (by rfl)) (by rfl) ?_)
    | (refine s1_pick ?_; first | refine sc_r (R_pick_t (by rfl) (by rfl)) (by rfl) ?_ | refine sc_r (R_pick_f (by rfl) (by rfl)) (by rfl) ?_)
    | (refine s1_bin ?_; first | refine sc_r (R_lss (by rfl) (by rfl)) (by rfl) ?_ | refine sc_r (R_add64 (by rfl) (by rfl) (by omega)) (by rfl) ?_ | refine sc_r (R_gtr (by rfl) (by rfl)) (by rfl) ?_ | refine sc_r (R_leq (by rfl) (by rfl)) (by rfl) ?_ | refine sc_r (R_geq (by rfl) (by rfl)) (by rfl) ?_ | refine sc_r (R_eql (by rfl) (by rfl)) (by rfl) ?_ | refine sc_r (R_neq (by rfl) (by rfl)) (by rfl) ?_ | refine sc_r (R_sub64 (by rfl) (by rfl) (by omega)) (by rfl) ?_ | refine sc_r (R_mul64 (by rfl) (by rfl) (by first | assumption | omega)) (by rfl) ?_)
    | (refine s1_call ?_; first | (refine sc_c (by rfl) (C_call (by rfl) (by infer_instance) (by rfl) (by rfl) (awake17)) (by rfl) ?_; rintro _ _ ⟨rfl, rfl⟩) | (refine sc_w (by rfl) (W_append1 (by rfl) (by rfl) (by focus ((repeat (first | exact Rem.here | apply Rem.there)); done)) (by infer_instance) (by rfl) (by rfl) (by first | assumption | omega)) (by rfl) ?_; rintro _ _ rfl) | refine sc_r (R_len (by rfl)) (by rfl) ?_ | refine sc_r (R_len_str (by rfl)) (by rfl) ?_)
    | (refine s1_indexAddr ?_; first | refine sc_r (R_indexAddr (by rfl) (by rfl) (by omega)) (by rfl) ?_ | refine sc_r (R_indexAddr_arr (by rfl) (by rfl) (by omega)) (by rfl) ?_)
    | (refine s1_store ?_; first | (refine sc_w (by rfl) (W_storeAll (by rfl) (by rfl) (by infer_instance) (by rfl) (by rfl) (by rfl)) (by rfl) ?_; rintro _ _ ⟨rfl, rfl⟩) | (refine sc_w (by rfl) (W_storeL (by rfl) (by rfl) (by infer_instance) (by rfl) (by rfl) (by rfl)) (by rfl) ?_; rintro _ _ ⟨rfl, rfl⟩) | (refine sc_w (by rfl) (W_store1 (by rfl) (by rfl) (by infer_instance) (by rfl) (by assumption) (by rfl)) (by rfl) ?_; rintro _ _ ⟨rfl, rfl⟩))
    | (refine s1_alloc ?_; first | (refine sc_w (by rfl) W_allocA (by rfl) ?_; rintro _ _ ⟨_, rfl, rfl⟩) | (refine sc_w (by rfl) (W_alloc1 (by rfl)) (by rfl) ?_; rintro _ _ ⟨_, rfl, rfl⟩))
    | (refine s1_box ?_; first | (refine sc_w (by rfl) (W_boxA (by rfl)) (by rfl) ?_; rintro _ _ ⟨_, rfl, rfl⟩) | (refine sc_w (by rfl) (W_box1 (by rfl) (by rfl)) (by rfl) ?_; rintro _ _ ⟨_, rfl, rfl⟩))
    | (refine s1_conv ?_; first | refine sc_r (R_conv64 (by rfl) (by omega)) (by rfl) ?_)
    | (refine s1_slice ?_; first | refine sc_r (R_slice_h (by rfl) (by rfl) (by omega)) (by rfl) ?_ | refine sc_r (R_slice_l (by rfl) (by rfl) (by omega)) (by rfl) ?_ | refine sc_r (R_slice_lh (by rfl) (by rfl) (by rfl) (by omega)) (by rfl) ?_)
    | (refine s1_any ?_; first | refine sc_r (R_not (by rfl)) (by rfl) ?_ | refine sc_r (R_extract (by rfl) (by rfl)) (by rfl) ?_ | (refine sc_w (by rfl) (W_buildSlice1 (by rfl) (by rfl) (by rfl) (by rfl) (by rfl)) (by rfl) ?_; rintro _ _ ⟨_, rfl, rfl⟩) | (refine sc_w (by rfl) (W_buildSlice1s (by rfl) (by rfl)) (by rfl) ?_; rintro _ _ ⟨_, rfl, rfl⟩) | (refine sc_w (by rfl) (W_buildSlice (by rfl) (by rfl) (by rfl) (by rfl)) (by rfl) ?_; rintro _ _ ⟨_, rfl, rfl⟩) | refine sc_r (R_build (by rfl) (by rfl)) (by rfl) ?_ | refine sc_r (R_nilCheck (by rfl)) (by rfl) ?_ | refine sc_r (R_nilCheck_func (by rfl)) (by rfl) ?_ | (refine sc_w (by rfl) W_makeMap (by rfl) ?_; rintro _ _ ⟨_, rfl, rfl⟩) | refine sc_r (R_makeInterface (by rfl)) (by rfl) ?_ | refine sc_r (R_makeFunc (by rfl) (by rfl)) (by rfl) ?_)
    | refine swl_nil ?_
    | refine sx_next ?_
    | refine sw_seq ?_
    | refine sw_region ?_
    | refine sw_block ?_
    | refine swl_g_on (by rfl) (by rfl) ?_
    | refine swl_g_off (by rfl) (by rfl) (by rfl) (by rfl) ?_
    | refine swl_g_un (by rfl) (by rfl) (by rfl) ?_
    | refine swl_g_pos (by rfl) (by rfl) (by first | assumption | omega) ?_
    | refine swl_g_neg (by rfl) (by rfl) (by first | assumption | omega) ?_
    | refine swl_g_npos (by rfl) (by rfl) (by first | assumption | omega) ?_
    | refine swl_g_nneg (by rfl) (by rfl) (by first | assumption | omega) ?_
    | refine swl_g_dec (by rfl) (by rfl) (fun hp => ?_) (fun hp => ?_)
    | refine swl_g_ndec (by rfl) (by rfl) (fun hp => ?_) (fun hp => ?_)
    | refine swl_g_bool (by rfl) (by rfl) (fun hp => ?_) (fun hp => ?_)
    | refine sx_past_ret ?_
    | refine sx_past_exit ?_
    | refine sx_block_normal ?_
    | refine sx_block_ret ?_
    | refine sx_block_here ?_
    | refine sx_block_past (by rfl) ?_
    | refine sw_cond_true (by rfl) ?_
    | refine sw_cond_false (by rfl) ?_
    | refine sw_cond_pos (by rfl) (by first | assumption | omega) ?_
    | refine sw_cond_neg (by rfl) (by first | assumption | omega) ?_
    | refine sw_cond_npos (by rfl) (by first | assumption | omega) ?_
    | refine sw_cond_nneg (by rfl) (by first | assumption | omega) ?_
    | refine sw_cond_dec (by rfl) (fun hp => ?_) (fun hp => ?_)
    | refine sw_cond_not (by rfl) (fun hp => ?_) (fun hp => ?_)
    | refine sw_cond_bool (by rfl) (fun hp => ?_) (fun hp => ?_)
    | refine sw_ret ?_
    | refine sw_exit ?_
    | refine sw_skip ?_)
          all_goals exact sx_ret_of (res1 rfl (ResOne.tmp rfl)) L ⟨rfl, rfl⟩ (by (repeat (first | exact Ent.refl _ | exact Ent.nil | (apply Ent.pick; focus ((repeat (first | exact Rem.here | apply Rem.there)); done)) | apply Ent.drop)))
end Go.Proofs.Ytcdpiedgfkebcaa
