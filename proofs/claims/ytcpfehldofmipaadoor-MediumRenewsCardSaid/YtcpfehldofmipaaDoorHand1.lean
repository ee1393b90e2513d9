/-
  What laws hand in: blocks of one octet; the document's devices, of which nothing is asked here; geometries that may be.
-/
import Derived.Test.YtcpfehldofmipaaDoorMed10
namespace Go.Proofs.YtcpfehldofmipaaDoor
open Go Go.SL Go.Proofs

def allB (c : Int) : List Int := List.replicate 128 c
theorem all_step (c : Int) {i : Nat} (h : i < 128) : ((List.replicate i c ++ List.replicate (128 - i) (0 : Int)).map u8c).set i (u8c c) = (List.replicate (i + 1) c ++ List.replicate (128 - (i + 1)) 0).map u8c := by
  rw [← List.map_set]
  congr 1
  rw [List.set_append_right _ _ (by simp), List.length_replicate, Nat.sub_self, show 128 - i = (128 - (i + 1)) + 1 by omega, List.replicate_succ, List.set_cons_zero, List.replicate_succ', List.append_assoc]; rfl
set_option maxRecDepth 100000 in
theorem law4_All (c : Int) {L : List HP} : Tr Tryd.prog 17 [.int .u8 c].toArray L (fun v L' => ∃ b, v = .slice (some ⟨b, 0, none⟩) 128 128 ∧ SlOK (some ⟨b, 0, none⟩) 128 128 ∧ L' = vec 5 1 ((allB c).map u8c) (.slice (some ⟨b, 0, none⟩) 128 128) :: L) := by
  refine tr_enter Tryd.func17 rfl Tryd.ntmps17 rfl fun w0 => ?_
  repeat' (first
    | refine swl_op ?_
    | (refine s1_assign ?_; refine sc_r (R_assign (by rfl)) (by rfl) ?_)
    | (refine s1_any ?_; (refine sc_w (by rfl) (W_makeSlice (n' := 128) (c' := 128) (zc := u8c 0) (by rfl) (by rfl) (by rfl) (by rfl) (by rfl) (by omega) (by omega)) (by rfl) ?_; rintro _ _ ⟨b, rfl, hok, rfl⟩))
    | refine swl_nil ?_
    | refine sx_next ?_
    | refine sw_seq ?_
    | refine sw_region ?_
    | refine sw_block ?_
    | fail)
  refine sw_loop (γ := Nat) (fun i => 128 - i) (fun i => [(0, .int .u8 c), (3, .slice (some ⟨b, 0, none⟩) 128 128), (4, .int .i64 i)]) (fun i => vec 5 1 ((List.replicate i c ++ List.replicate (128 - i) 0).map u8c) (.slice (some ⟨b, 0, none⟩) 128 128) :: L) (fun i => i ≤ 128) 0 (by omega)
    (subE.cons rfl (subE.cons rfl (subE.cons rfl subE.nil))) (by rw [List.replicate_zero, List.nil_append, List.map_replicate]; (repeat (first | exact Ent.refl _ | exact Ent.nil | (apply Ent.pick; focus ((repeat (first | exact Rem.here | apply Rem.there)); done)) | apply Ent.drop))) ?_
  intro i hi
  by_cases hlt : i < 128
  · have hst := all_step c hlt
    have hli : i < ((List.replicate i c ++ List.replicate (128 - i) (0 : Int)).map u8c).length := by simp; omega
    repeat' (first
    | refine swl_op ?_
    | (refine s1_move ?_; refine sc_r (R_move (by rfl)) (by rfl) ?_)
    | (refine s1_assign ?_; refine sc_r (R_assign (by rfl)) (by rfl) ?_)
    | (refine s1_bin ?_; first | refine sc_r (R_lss (by rfl) (by rfl)) (by rfl) ?_ | refine sc_r (R_add64 (by rfl) (by rfl) (by omega)) (by rfl) ?_)
    | (refine s1_indexAddr ?_; refine sc_r (R_indexAddr (by rfl) (by rfl) (by omega)) (by rfl) ?_)
    | (refine s1_store ?_; (refine sc_w (by rfl) (W_store_el1 (by rfl) (by rfl) (by focus ((repeat (first | exact Rem.here | apply Rem.there)); done)) (by rfl) hli) (by rfl) ?_; rintro _ _ ⟨rfl, rfl⟩))
    | refine swl_nil ?_
    | refine sx_next ?_
    | refine sw_seq ?_
    | refine sw_region ?_
    | refine sw_block ?_
    | refine sx_block_normal ?_
    | refine sw_cond_pos (by rfl) (by first | assumption | omega) ?_
    | refine sw_skip ?_
    | fail)
    refine sx_back (i + 1) (by omega) (by omega) (subE.cons rfl (subE.cons rfl (subE.cons rfl subE.nil))) ?_
    rw [← hst]
    (repeat (first | exact Ent.refl _ | exact Ent.nil | (apply Ent.pick; focus ((repeat (first | exact Rem.here | apply Rem.there)); done)) | apply Ent.drop))
  · have h128 : i = 128 := by omega
    repeat' (first
    | refine swl_op ?_
    | (refine s1_move ?_; refine sc_r (R_move (by rfl)) (by rfl) ?_)
    | (refine s1_assign ?_; refine sc_r (R_assign (by rfl)) (by rfl) ?_)
    | (refine s1_bin ?_; refine sc_r (R_lss (by rfl) (by rfl)) (by rfl) ?_)
    | refine swl_nil ?_
    | refine sx_next ?_
    | refine sw_seq ?_
    | refine sw_region ?_
    | refine sx_past_exit ?_
    | refine sx_block_here ?_
    | refine sw_cond_neg (by rfl) (by first | assumption | omega) ?_
    | refine sw_ret ?_
    | refine sw_exit ?_
    | fail)
    refine sx_ret_of (res1 rfl (ResOne.tmp rfl)) _ ⟨_, rfl, hok, rfl⟩ ?_
    rw [h128, show List.replicate 128 c ++ List.replicate (128 - 128) (0 : Int) = allB c by rw [Nat.sub_self, List.replicate_zero, List.append_nil]; rfl]
    (repeat (first | exact Ent.refl _ | exact Ent.nil | (apply Ent.pick; focus ((repeat (first | exact Rem.here | apply Rem.there)); done)) | apply Ent.drop))

theorem ref3_May (g : Geo) {L : List HP} : Tr Tryd.prog 10 [.agg g.cells].toArray L (fun v L' => v = .bool (mayG g) ∧ L = L') := by
  refine tr_enter Tryd.func10 rfl Tryd.ntmps10 rfl fun w0 => ?_
  unfold Geo.cells
  repeat' (first
    | refine swl_op ?_
    | (refine s1_move ?_; refine sc_r (R_move (by rfl)) (by rfl) ?_)
    | (refine s1_load ?_; refine sc_r (L_load' (by rfl) (by infer_instance) (by rfl)) (by rfl) ?_)
    | (refine s1_fieldAddr ?_; refine sc_r (R_fieldAddr (by rfl)) (by rfl) ?_)
    | (refine s1_assign ?_; refine sc_r (R_assign (by rfl)) (by rfl) ?_)
    | (refine s1_pick ?_; first | refine sc_r (R_pick_t (by rfl) (by rfl)) (by rfl) ?_ | refine sc_r (R_pick_f (by rfl) (by rfl)) (by rfl) ?_)
    | (refine s1_bin ?_; first | refine sc_r (R_leq (by rfl) (by rfl)) (by rfl) ?_ | refine sc_r (R_sub64 (by rfl) (by rfl) (by omega)) (by rfl) ?_)
    | (refine s1_box ?_; (refine sc_w (by rfl) (W_boxA (by rfl)) (by rfl) ?_; rintro _ _ ⟨_, rfl, rfl⟩))
    | refine swl_nil ?_
    | refine sx_next ?_
    | refine sw_seq ?_
    | refine sw_region ?_
    | refine swl_g_on (by rfl) (by rfl) ?_
    | refine swl_g_off (by rfl) (by rfl) (by rfl) (by rfl) ?_
    | refine swl_g_dec (by rfl) (by rfl) (fun hp => ?_) (fun hp => ?_)
    | refine sw_ret ?_
    | fail)
  all_goals refine sx_ret_of (res1 rfl (ResOne.tmp rfl)) L ⟨?_, rfl⟩ (by (repeat (first | exact Ent.refl _ | exact Ent.nil | (apply Ent.pick; focus ((repeat (first | exact Rem.here | apply Rem.there)); done)) | apply Ent.drop)))
  all_goals (refine congrArg Value.bool ?_; simp only [mayG]; grind)
theorem ref3_May' (g : Geo) (b : Bool) (h : mayG g = b) {L : List HP} : Tr Tryd.prog 10 [.agg g.cells].toArray L (fun v L' => v = .bool b ∧ L = L') := h ▸ ref3_May g

theorem ref4_Noughts {L : List HP} : Tr Tryd.prog 84 [].toArray L (fun v L' => ∃ s, v = .string s ∧ L = L') := by
  refine tr_enter Tryd.func84 rfl Tryd.ntmps84 rfl fun w0 => ?_
  repeat' (first
    | refine swl_op ?_
    | (refine s1_assign ?_; refine sc_r (R_assign (by rfl)) (by rfl) ?_)
    | (refine s1_conv ?_; refine sc_r (R_bytes_string (l := List.replicate 128 0) (by rfl) (@SlC.ofVec _ _ _ _ _ _ _ hok ⟨by rw [List.length_map, List.length_replicate]⟩)) (by rfl) ?_)
    | (refine s1_any ?_; (refine sc_w (by rfl) (W_makeSlice (n' := 128) (c' := 128) (zc := u8c 0) (by rfl) (by rfl) (by rfl) (by rfl) (by rfl) (by omega) (by omega)) (by rfl) ?_; rintro _ _ ⟨b, rfl, hok, rfl⟩; rw [show List.replicate 128 (u8c 0) = (List.replicate 128 (0 : Int)).map u8c from List.map_replicate.symm]))
    | refine swl_nil ?_
    | refine sx_next ?_
    | refine sw_seq ?_
    | refine sw_region ?_
    | refine sw_ret ?_
    | fail)
  exact sx_ret_of (res1 rfl (ResOne.tmp rfl)) _ ⟨_, rfl, rfl⟩ (by (repeat (first | exact Ent.refl _ | exact Ent.nil | (apply Ent.pick; focus ((repeat (first | exact Rem.here | apply Rem.there)); done)) | apply Ent.drop)))

set_option maxHeartbeats 4000000 in
theorem ref4_New (n : Nat) (hn : n ≤ 100000) {L : List HP} : Tr Tryd.prog 49 [.int .i64 n].toArray L (fun v L' => ∃ b, v = .pointer (some ⟨b, 0, none⟩) ∧ L = L') := by
  refine tr_enter Tryd.func49 rfl Tryd.ntmps49 rfl fun w0 => ?_
  repeat' (first
    | refine swl_op ?_
    | (refine s1_assign ?_; refine sc_r (R_assign (by rfl)) (by rfl) ?_)
    | (refine s1_box ?_; (refine sc_w (by rfl) (W_boxA (by rfl)) (by rfl) ?_; rintro _ _ ⟨_, rfl, rfl⟩))
    | (refine s1_any ?_; refine sc_r (R_buildL (by rfl) (by rfl)) (by rfl) ?_)
    | refine swl_nil ?_
    | refine sx_next ?_
    | refine sw_seq ?_
    | refine sw_region ?_
    | refine sw_block ?_
    | fail)
  rename_i b
  refine sw_ent (Ent.vec_nil (e := 9) (k := 1)) ?_
  refine sw_ent (Ent.vec_nil (e := 3) (k := 1)) ?_
  refine sw_loop (γ := Nat × Value × Value × List (Array Value) × List (Array Value)) (fun g => n - g.1) (fun g => [(0, .int .i64 n), (3, .pointer (some ⟨b, 0, none⟩)), (4, .int .i64 g.1)])
    (fun g => pt b (.cells #[g.2.1, g.2.2.1, .slice none 0 0, .int .i64 (-1), .bool false, .bool false] 149) :: vec 9 1 g.2.2.2.1 g.2.1 :: vec 3 1 g.2.2.2.2 g.2.2.1 :: L) (fun g => g.1 ≤ n ∧ g.2.2.2.1.length = g.1 ∧ g.2.2.2.2.length = g.1) (0, .slice none 0 0, .slice none 0 0, [], []) ⟨by simp, rfl, rfl⟩
    (subE.cons rfl (subE.cons rfl (subE.cons rfl subE.nil))) (by (repeat (first | exact Ent.refl _ | exact Ent.nil | (apply Ent.pick; focus ((repeat (first | exact Rem.here | apply Rem.there)); done)) | apply Ent.drop))) ?_
  rintro ⟨i, sH, sF, e1, e2⟩ ⟨hi, hl1, hl2⟩
  dsimp only at hi hl1 hl2 ⊢
  by_cases hlt : i < n
  · repeat' (first
    | refine swl_op ?_
    | (refine s1_move ?_; refine sc_r (R_move (by rfl)) (by rfl) ?_)
    | (refine s1_bin ?_; refine sc_r (R_lss (by rfl) (by rfl)) (by rfl) ?_)
    | refine swl_nil ?_
    | refine sx_next ?_
    | refine sw_seq ?_
    | refine sw_region ?_
    | refine sw_block ?_
    | refine sw_cond_pos (by rfl) (by first | assumption | omega) ?_
    | refine sw_skip ?_
    | fail)
    refine sw_openL L follows (by decide +kernel) (by (repeat (first | exact Ent.refl _ | exact Ent.nil | (apply Ent.pick; focus ((repeat (first | exact Rem.here | apply Rem.there)); done)) | apply Ent.drop))) ?_
    repeat' (first
    | (refine s1_move ?_; refine sc_r (R_move (by rfl)) (by rfl) ?_)
    | (refine s1_fieldAddr ?_; refine sc_r (R_fieldAddr (by rfl)) (by rfl) ?_)
    | (refine s1_any ?_; refine sc_r (R_nilCheck (by rfl)) (by rfl) ?_)
    | (refine swg_take 0 (by decide +kernel) (by rfl) (fun _ _ => wanted_none) ?_)
    | (refine swg_take 1 (by decide +kernel) (by rfl) (fun _ _ => wanted_none) ?_)
    | (refine swg_take 2 (by decide +kernel) (by rfl) (fun _ _ => wanted_none) ?_)
    | (refine swg_take 3 (by decide +kernel) (by rfl) (fun _ _ => wanted_none) ?_)
    | fail)
    refine swg_choice (rs := [4, 5]) (by decide +kernel) rfl ?_
    intro j hj
    simp only [List.mem_cons, List.not_mem_nil, or_false] at hj
    rcases hj with rfl | rfl
    · refine swc_op (by rfl) (fun _ _ => wanted_none) ?_
      repeat' (first
    | (refine s1_load ?_; refine sc_r (L_load' (by rfl) (by infer_instance) (by rfl)) (by rfl) ?_)
    | (apply And.intro; focus ((repeat (first | exact Ent.refl _ | exact Ent.nil | (apply Ent.pick; focus ((repeat (first | exact Rem.here | apply Rem.there)); done)) | apply Ent.drop)); done))
    | fail)
      refine swg_order [(5, false), (6, false), (7, false), (8, true), (9, true), (10, false)] (by rfl) (by decide +kernel) ?_
      repeat' (first
    | refine swl_op ?_
    | (refine s1_move ?_; refine sc_r (R_move (by rfl)) (by rfl) ?_)
    | (refine s1_load ?_; refine sc_r (L_load' (by rfl) (by infer_instance) (by rfl)) (by rfl) ?_)
    | (refine s1_fieldAddr ?_; refine sc_r (R_fieldAddr (by rfl)) (by rfl) ?_)
    | (refine s1_assign ?_; refine sc_r (R_assign (by rfl)) (by rfl) ?_)
    | (refine s1_bin ?_; refine sc_r (R_add64 (by rfl) (by rfl) (by omega)) (by rfl) ?_)
    | (refine s1_call ?_; first | (refine sc_c (by rfl) (C_call (by rfl) (by infer_instance) (by rfl) (by rfl) (ref4_Noughts)) (by rfl) ?_; rintro _ _ ⟨str, rfl, rfl⟩) | (refine sc_w (by rfl) (W_append1 (by rfl) (by rfl) (by focus ((repeat (first | exact Rem.here | apply Rem.there)); done)) (by infer_instance) (by rfl) (by rfl) (by omega)) (by rfl) ?_; rintro vv _ rfl; refine ⟨by (repeat (first | exact Ent.refl _ | exact Ent.nil | (apply Ent.pick; focus ((repeat (first | exact Rem.here | apply Rem.there)); done)) | apply Ent.drop)), ?_⟩; refine swh_know (fun h H => vec_fact H) ?_; rintro ⟨pv, cv, rfl, hv⟩) | (refine sc_w (by rfl) (W_append1 (by rfl) (by rfl) (by focus ((repeat (first | exact Rem.here | apply Rem.there)); done)) (by infer_instance) (by rfl) (by rfl) (by omega)) (by rfl) ?_; rintro vv2 _ rfl; refine swl_know (fun h H => vec_fact H) ?_; rintro ⟨pv2, cv2, rfl, hv2⟩))
    | (refine s1_store ?_; (refine sc_w (by rfl) (W_storeL (by rfl) (by rfl) (by infer_instance) (by rfl) (by rfl) (by rfl)) (by rfl) ?_; rintro _ _ ⟨rfl, rfl⟩))
    | (refine s1_any ?_; first | (refine sc_w (by rfl) (W_buildSlice1s (by rfl) (by rfl)) (by rfl) ?_; rintro _ _ ⟨_, rfl, rfl⟩) | refine sc_r (R_nilCheck (by rfl)) (by rfl) ?_)
    | refine swl_nil ?_
    | refine sx_next ?_
    | refine sw_region ?_
    | refine sx_block_normal ?_
    | refine swh_lt (by rfl) (fun _ _ => wanted_none) ?_
    | refine swh_hv (by rfl) (fun _ _ => wanted_none) ?_
    | refine swh_nil ?_
    | (apply And.intro; focus ((repeat (first | exact Ent.refl _ | exact Ent.nil | (apply Ent.pick; focus ((repeat (first | exact Rem.here | apply Rem.there)); done)) | apply Ent.drop)); done))
    | fail)
      refine sx_back (i + 1, .slice pv (e1 ++ [#[Value.string str]]).length cv, .slice pv2 (e2 ++ [#[Value.int .i64 0]]).length cv2, e1 ++ [#[.string str]], e2 ++ [#[.int .i64 0]]) (by simp only; omega) ⟨by simp only; omega, by simp [hl1], by simp [hl2]⟩ (subE.cons rfl (subE.cons rfl (subE.cons rfl subE.nil))) (by (repeat (first | exact Ent.refl _ | exact Ent.nil | (apply Ent.pick; focus ((repeat (first | exact Rem.here | apply Rem.there)); done)) | apply Ent.drop)))
    · refine swc_op (by rfl) (fun _ _ => wanted_none) ?_
      repeat' (first
    | (refine s1_call ?_; (refine sc_c (by rfl) (C_call (by rfl) (by infer_instance) (by rfl) (by rfl) (ref4_Noughts)) (by rfl) ?_; rintro _ _ ⟨str, rfl, rfl⟩))
    | (apply And.intro; focus ((repeat (first | exact Ent.refl _ | exact Ent.nil | (apply Ent.pick; focus ((repeat (first | exact Rem.here | apply Rem.there)); done)) | apply Ent.drop)); done))
    | fail)
      refine swg_choice (rs := [4, 6]) (by decide +kernel) rfl ?_
      intro j hj
      simp only [List.mem_cons, List.not_mem_nil, or_false] at hj
      rcases hj with rfl | rfl
      · refine swc_op (by rfl) (fun _ _ => wanted_none) ?_
        repeat' (first
    | (refine s1_load ?_; refine sc_r (L_load' (by rfl) (by infer_instance) (by rfl)) (by rfl) ?_)
    | (apply And.intro; focus ((repeat (first | exact Ent.refl _ | exact Ent.nil | (apply Ent.pick; focus ((repeat (first | exact Rem.here | apply Rem.there)); done)) | apply Ent.drop)); done))
    | fail)
        refine swg_order [(6, false), (7, false), (8, true), (9, true), (10, false)] (by rfl) (by decide +kernel) ?_
        repeat' (first
    | refine swl_op ?_
    | (refine s1_move ?_; refine sc_r (R_move (by rfl)) (by rfl) ?_)
    | (refine s1_load ?_; refine sc_r (L_load' (by rfl) (by infer_instance) (by rfl)) (by rfl) ?_)
    | (refine s1_fieldAddr ?_; refine sc_r (R_fieldAddr (by rfl)) (by rfl) ?_)
    | (refine s1_assign ?_; refine sc_r (R_assign (by rfl)) (by rfl) ?_)
    | (refine s1_bin ?_; refine sc_r (R_add64 (by rfl) (by rfl) (by omega)) (by rfl) ?_)
    | (refine s1_call ?_; first | (refine sc_w (by rfl) (W_append1 (by rfl) (by rfl) (by focus ((repeat (first | exact Rem.here | apply Rem.there)); done)) (by infer_instance) (by rfl) (by rfl) (by omega)) (by rfl) ?_; rintro vv _ rfl; refine ⟨by (repeat (first | exact Ent.refl _ | exact Ent.nil | (apply Ent.pick; focus ((repeat (first | exact Rem.here | apply Rem.there)); done)) | apply Ent.drop)), ?_⟩; refine swh_know (fun h H => vec_fact H) ?_; rintro ⟨pv, cv, rfl, hv⟩) | (refine sc_w (by rfl) (W_append1 (by rfl) (by rfl) (by focus ((repeat (first | exact Rem.here | apply Rem.there)); done)) (by infer_instance) (by rfl) (by rfl) (by omega)) (by rfl) ?_; rintro vv2 _ rfl; refine swl_know (fun h H => vec_fact H) ?_; rintro ⟨pv2, cv2, rfl, hv2⟩))
    | (refine s1_store ?_; (refine sc_w (by rfl) (W_storeL (by rfl) (by rfl) (by infer_instance) (by rfl) (by rfl) (by rfl)) (by rfl) ?_; rintro _ _ ⟨rfl, rfl⟩))
    | (refine s1_any ?_; first | (refine sc_w (by rfl) (W_buildSlice1s (by rfl) (by rfl)) (by rfl) ?_; rintro _ _ ⟨_, rfl, rfl⟩) | refine sc_r (R_nilCheck (by rfl)) (by rfl) ?_)
    | refine swl_nil ?_
    | refine sx_next ?_
    | refine sw_region ?_
    | refine sx_block_normal ?_
    | refine swh_lt (by rfl) (fun _ _ => wanted_none) ?_
    | refine swh_hv (by rfl) (fun _ _ => wanted_none) ?_
    | refine swh_nil ?_
    | (apply And.intro; focus ((repeat (first | exact Ent.refl _ | exact Ent.nil | (apply Ent.pick; focus ((repeat (first | exact Rem.here | apply Rem.there)); done)) | apply Ent.drop)); done))
    | fail)
        refine sx_back (i + 1, .slice pv (e1 ++ [#[Value.string str]]).length cv, .slice pv2 (e2 ++ [#[Value.int .i64 0]]).length cv2, e1 ++ [#[.string str]], e2 ++ [#[.int .i64 0]]) (by simp only; omega) ⟨by simp only; omega, by simp [hl1], by simp [hl2]⟩ (subE.cons rfl (subE.cons rfl (subE.cons rfl subE.nil))) (by (repeat (first | exact Ent.refl _ | exact Ent.nil | (apply Ent.pick; focus ((repeat (first | exact Rem.here | apply Rem.there)); done)) | apply Ent.drop)))
      · refine swc_op (by rfl) (fun _ _ => wanted_none) ?_
        repeat' (first
    | (refine s1_any ?_; (refine sc_w (by rfl) (W_buildSlice1s (by rfl) (by rfl)) (by rfl) ?_; rintro _ _ ⟨_, rfl, rfl⟩))
    | (apply And.intro; focus ((repeat (first | exact Ent.refl _ | exact Ent.nil | (apply Ent.pick; focus ((repeat (first | exact Rem.here | apply Rem.there)); done)) | apply Ent.drop)); done))
    | fail)
        refine swg_order [(4, false), (7, false), (8, true), (9, true), (10, false)] (by rfl) (by decide +kernel) ?_
        repeat' (first
    | refine swl_op ?_
    | (refine s1_move ?_; refine sc_r (R_move (by rfl)) (by rfl) ?_)
    | (refine s1_load ?_; refine sc_r (L_load' (by rfl) (by infer_instance) (by rfl)) (by rfl) ?_)
    | (refine s1_fieldAddr ?_; refine sc_r (R_fieldAddr (by rfl)) (by rfl) ?_)
    | (refine s1_assign ?_; refine sc_r (R_assign (by rfl)) (by rfl) ?_)
    | (refine s1_bin ?_; refine sc_r (R_add64 (by rfl) (by rfl) (by omega)) (by rfl) ?_)
    | (refine s1_call ?_; first | (refine sc_w (by rfl) (W_append1 (by rfl) (by rfl) (by focus ((repeat (first | exact Rem.here | apply Rem.there)); done)) (by infer_instance) (by rfl) (by rfl) (by omega)) (by rfl) ?_; rintro vv _ rfl; refine ⟨by (repeat (first | exact Ent.refl _ | exact Ent.nil | (apply Ent.pick; focus ((repeat (first | exact Rem.here | apply Rem.there)); done)) | apply Ent.drop)), ?_⟩; refine swh_know (fun h H => vec_fact H) ?_; rintro ⟨pv, cv, rfl, hv⟩) | (refine sc_w (by rfl) (W_append1 (by rfl) (by rfl) (by focus ((repeat (first | exact Rem.here | apply Rem.there)); done)) (by infer_instance) (by rfl) (by rfl) (by omega)) (by rfl) ?_; rintro vv2 _ rfl; refine swl_know (fun h H => vec_fact H) ?_; rintro ⟨pv2, cv2, rfl, hv2⟩))
    | (refine s1_store ?_; (refine sc_w (by rfl) (W_storeL (by rfl) (by rfl) (by infer_instance) (by rfl) (by rfl) (by rfl)) (by rfl) ?_; rintro _ _ ⟨rfl, rfl⟩))
    | (refine s1_any ?_; first | (refine sc_w (by rfl) (W_buildSlice1s (by rfl) (by rfl)) (by rfl) ?_; rintro _ _ ⟨_, rfl, rfl⟩) | refine sc_r (R_nilCheck (by rfl)) (by rfl) ?_)
    | refine swl_nil ?_
    | refine sx_next ?_
    | refine sw_region ?_
    | refine sx_block_normal ?_
    | refine swh_lt (by rfl) (fun _ _ => wanted_none) ?_
    | refine swh_hv (by rfl) (fun _ _ => wanted_none) ?_
    | refine swh_nil ?_
    | (apply And.intro; focus ((repeat (first | exact Ent.refl _ | exact Ent.nil | (apply Ent.pick; focus ((repeat (first | exact Rem.here | apply Rem.there)); done)) | apply Ent.drop)); done))
    | fail)
        refine sx_back (i + 1, .slice pv (e1 ++ [#[Value.string str]]).length cv, .slice pv2 (e2 ++ [#[Value.int .i64 0]]).length cv2, e1 ++ [#[.string str]], e2 ++ [#[.int .i64 0]]) (by simp only; omega) ⟨by simp only; omega, by simp [hl1], by simp [hl2]⟩ (subE.cons rfl (subE.cons rfl (subE.cons rfl subE.nil))) (by (repeat (first | exact Ent.refl _ | exact Ent.nil | (apply Ent.pick; focus ((repeat (first | exact Rem.here | apply Rem.there)); done)) | apply Ent.drop)))
  · repeat' (first
    | refine swl_op ?_
    | (refine s1_move ?_; refine sc_r (R_move (by rfl)) (by rfl) ?_)
    | (refine s1_assign ?_; refine sc_r (R_assign (by rfl)) (by rfl) ?_)
    | (refine s1_bin ?_; refine sc_r (R_lss (by rfl) (by rfl)) (by rfl) ?_)
    | refine swl_nil ?_
    | refine sx_next ?_
    | refine sw_seq ?_
    | refine sw_region ?_
    | refine sx_past_exit ?_
    | refine sx_block_here ?_
    | refine sw_cond_neg (by rfl) (by first | assumption | omega) ?_
    | refine sw_ret ?_
    | refine sw_exit ?_
    | fail)
    exact sx_ret_of (res1 rfl (ResOne.tmp rfl)) _ ⟨_, rfl, rfl⟩ (by (repeat (first | exact Ent.refl _ | exact Ent.nil | (apply Ent.pick; focus ((repeat (first | exact Rem.here | apply Rem.there)); done)) | apply Ent.drop)))
end Go.Proofs.YtcpfehldofmipaaDoor
