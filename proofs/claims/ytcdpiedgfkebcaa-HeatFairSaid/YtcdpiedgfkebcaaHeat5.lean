/-
  The document's May.
-/
import Derived.Test.YtcdpiedgfkebcaaHeat4
namespace Go.Proofs.Ytcdpiedgfkebcaa
open Go Go.SL Go.Proofs

theorem okH_iff (x : Heat) : okH x = true ↔ (1 ≤ x.ino ∧ x.ino ≤ 39) ∧ (0 ≤ x.tick ∧ x.tick ≤ 2147483647) ∧ (0 ≤ x.blocks ∧ x.blocks ≤ 2147483647) := by
  unfold okH fits; simp [and_assoc]

theorem ref17_May (l : List Heat) {L : List HP} {p : Option Addr} {n cp : Nat} (hl : SlC L p 3 n cp (l.map Heat.cells)) :
    Tr Try.prog 14 [.slice p n cp].toArray L (fun v L' => v = .bool (may l) ∧ L = L') := by
  have hlen : l.length = n := by simpa using hl.len
  have hbd := hl.bd
  refine tr_enter Try.func14 rfl Try.ntmps14 rfl fun w0 => ?_
  repeat' (first
    | refine swl_op ?_
    | (refine s1_move ?_; refine sc_r (R_move (by rfl)) (by rfl) ?_)
    | (refine s1_load ?_; first | refine sc_r (L_load' (by rfl) (by infer_instance) (by rfl)) (by rfl) ?_ | refine sc_r (L_load_all (by rfl) (by infer_instance) (by rfl)) (by rfl) ?_ | refine sc_r (L_load_el (by rfl) (by infer_instance) (by infer_instance) (by omega) (by first | assumption | rfl)) (by rfl) ?_ | refine sc_r (L_load_el1 (by rfl) (by infer_instance) (by omega) (by first | assumption | rfl)) (by rfl) ?_ | refine sc_r (L_load_elf (by rfl) (by infer_instance) (by omega) (by first | assumption | rfl) (by rfl) (by rfl)) (by rfl) ?_ | refine sc_r (L_load_agg (by rfl) (by infer_instance) (by assumption) (by assumption)) (by rfl) ?_ | refine sc_r (L_load (by rfl) (by infer_instance) (by assumption)) (by rfl) ?_)
    | (refine s1_fieldAddr ?_; refine sc_r (R_fieldAddr (by rfl)) (by rfl) ?_)
    | (refine s1_assign ?_; refine sc_r (R_assign (by rfl)) (by rfl) ?_)
    | (refine s1_pick ?_; first | refine sc_r (R_pick_t (by rfl) (by rfl)) (by rfl) ?_ | refine sc_r (R_pick_f (by rfl) (by rfl)) (by rfl) ?_)
    | (refine s1_bin ?_; first | refine sc_r (R_lss (by rfl) (by rfl)) (by rfl) ?_ | refine sc_r (R_add64 (by rfl) (by rfl) (by omega)) (by rfl) ?_ | refine sc_r (R_gtr (by rfl) (by rfl)) (by rfl) ?_ | refine sc_r (R_leq (by rfl) (by rfl)) (by rfl) ?_ | refine sc_r (R_geq (by rfl) (by rfl)) (by rfl) ?_ | refine sc_r (R_eql (by rfl) (by rfl)) (by rfl) ?_ | refine sc_r (R_neq (by rfl) (by rfl)) (by rfl) ?_ | refine sc_r (R_sub64 (by rfl) (by rfl) (by omega)) (by rfl) ?_ | refine sc_r (R_mul64 (by rfl) (by rfl) (by first | assumption | omega)) (by rfl) ?_)
    | (refine s1_call ?_; first | (refine sc_w (by rfl) (W_append1 (by rfl) (by rfl) (by focus ((repeat (first | exact Rem.here | apply Rem.there)); done)) (by infer_instance) (by rfl) (by rfl) (by first | assumption | omega)) (by rfl) ?_; rintro _ _ rfl) | refine sc_r (R_len (by rfl)) (by rfl) ?_ | refine sc_r (R_len_str (by rfl)) (by rfl) ?_)
    | (refine s1_indexAddr ?_; first | refine sc_r (R_indexAddr (by rfl) (by rfl) (by omega)) (by rfl) ?_ | refine sc_r (R_indexAddr_arr (by rfl) (by rfl) (by omega)) (by rfl) ?_)
    | (refine s1_store ?_; first | (refine sc_w (by rfl) (W_storeAll (by rfl) (by rfl) (by infer_instance) (by rfl) (by rfl) (by rfl)) (by rfl) ?_; rintro _ _ ⟨rfl, rfl⟩) | (refine sc_w (by rfl) (W_storeL (by rfl) (by rfl) (by infer_instance) (by rfl) (by rfl) (by rfl)) (by rfl) ?_; rintro _ _ ⟨rfl, rfl⟩) | (refine sc_w (by rfl) (W_store1 (by rfl) (by rfl) (by infer_instance) (by rfl) (by assumption) (by rfl)) (by rfl) ?_; rintro _ _ ⟨rfl, rfl⟩))
    | (refine s1_alloc ?_; first | (refine sc_w (by rfl) W_allocA (by rfl) ?_; rintro _ _ ⟨_, rfl, rfl⟩) | (refine sc_w (by rfl) (W_alloc1 (by rfl)) (by rfl) ?_; rintro _ _ ⟨_, rfl, rfl⟩))
    | (refine s1_box ?_; first | (refine sc_w (by rfl) (W_boxA (by rfl)) (by rfl) ?_; rintro _ _ ⟨_, rfl, rfl⟩) | (refine sc_w (by rfl) (W_box1 (by rfl) (by rfl)) (by rfl) ?_; rintro _ _ ⟨_, rfl, rfl⟩))
    | (refine s1_conv ?_; first | refine sc_r (R_conv64 (by rfl) (by omega)) (by rfl) ?_)
    | (refine s1_slice ?_; first | refine sc_r (R_slice_h (by rfl) (by rfl) (by omega)) (by rfl) ?_ | refine sc_r (R_slice_l (by rfl) (by rfl) (by omega)) (by rfl) ?_ | refine sc_r (R_slice_lh (by rfl) (by rfl) (by rfl) (by omega)) (by rfl) ?_)
    | (refine s1_any ?_; first | refine sc_r (R_not (by rfl)) (by rfl) ?_ | refine sc_r (R_extract (by rfl) (by rfl)) (by rfl) ?_ | (refine sc_w (by rfl) (W_buildSlice1 (by rfl) (by rfl) (by rfl) (by rfl) (by rfl)) (by rfl) ?_; rintro _ _ ⟨_, rfl, rfl⟩) | (refine sc_w (by rfl) (W_buildSlice1s (by rfl) (by rfl)) (by rfl) ?_; rintro _ _ ⟨_, rfl, rfl⟩) | (refine sc_w (by rfl) (W_buildSlice (by rfl) (by rfl) (by rfl) (by rfl)) (by rfl) ?_; rintro _ _ ⟨_, rfl, rfl⟩) | refine sc_r (R_build (by rfl) (by rfl)) (by rfl) ?_ | refine sc_r (R_nilCheck (by rfl)) (by rfl) ?_ | refine sc_r (R_nilCheck_func (by rfl)) (by rfl) ?_ | (refine sc_w (by rfl) W_makeMap (by rfl) ?_; rintro _ _ ⟨_, rfl, rfl⟩) | refine sc_r (R_makeInterface (by rfl)) (by rfl) ?_ | refine sc_r (R_makeFunc (by rfl) (by rfl)) (by rfl) ?_)
    | refine swl_nil ?_
    | refine sx_next ?_
    | refine sw_seq ?_
    | refine sw_region ?_
    | refine sw_block ?_
    | refine swl_g_on (by rfl) (by rfl) ?_
    | refine swl_g_off (by rfl) (by rfl) (by rfl) (by rfl) ?_
    | refine swl_g_un (by rfl) (by rfl) (by rfl) ?_
    | refine swl_g_pos (by rfl) (by rfl) (by first | assumption | omega) ?_
    | refine swl_g_neg (by rfl) (by rfl) (by first | assumption | omega) ?_
    | refine swl_g_npos (by rfl) (by rfl) (by first | assumption | omega) ?_
    | refine swl_g_nneg (by rfl) (by rfl) (by first | assumption | omega) ?_
    | refine swl_g_dec (by rfl) (by rfl) (fun hp => ?_) (fun hp => ?_)
    | refine swl_g_ndec (by rfl) (by rfl) (fun hp => ?_) (fun hp => ?_)
    | refine swl_g_bool (by rfl) (by rfl) (fun hp => ?_) (fun hp => ?_)
    | refine sx_past_ret ?_
    | refine sx_past_exit ?_
    | refine sx_block_normal ?_
    | refine sx_block_ret ?_
    | refine sx_block_here ?_
    | refine sx_block_past (by rfl) ?_
    | refine sw_cond_true (by rfl) ?_
    | refine sw_cond_false (by rfl) ?_
    | refine sw_cond_pos (by rfl) (by first | assumption | omega) ?_
    | refine sw_cond_neg (by rfl) (by first | assumption | omega) ?_
    | refine sw_cond_npos (by rfl) (by first | assumption | omega) ?_
    | refine sw_cond_nneg (by rfl) (by first | assumption | omega) ?_
    | refine sw_cond_dec (by rfl) (fun hp => ?_) (fun hp => ?_)
    | refine sw_cond_not (by rfl) (fun hp => ?_) (fun hp => ?_)
    | refine sw_cond_bool (by rfl) (fun hp => ?_) (fun hp => ?_)
    | refine sw_ret ?_
    | refine sw_exit ?_
    | refine sw_skip ?_)
  refine sw_loop (γ := Nat) (fun g => n - g) (fun g => [(0, .slice p n cp), (3, .int .i64 g)]) (fun _ => L) (fun g => g ≤ n ∧ may (l.take g) = true) 0 ⟨by omega, rfl⟩
    (subE.cons rfl (subE.cons rfl subE.nil)) (by (repeat (first | exact Ent.refl _ | exact Ent.nil | (apply Ent.pick; focus ((repeat (first | exact Rem.here | apply Rem.there)); done)) | apply Ent.drop))) ?_
  intro g ⟨hg, hm⟩
  by_cases hlt : g < n
  · obtain ⟨b1, o1, rfl⟩ := hl.ptr (by omega)
    have hl1 : g < l.length := by omega
    have he1 := heats_get hl1
    have hts := may_take_succ hl1
    have hfa := may_false (l := l) (g := g)
    have hino : l[g].ino = (l.getD g ⟨0, 0, 0⟩).ino := by simp [hl1]
    have hok := okH_iff l[g]
    generalize hx : l[g] = x at *
    clear hx
    obtain ⟨xi, xt, xb⟩ := x
    unfold Heat.cells at he1
    dsimp only at *
    repeat' (first
    | refine swl_op ?_
    | (refine s1_move ?_; refine sc_r (R_move (by rfl)) (by rfl) ?_)
    | (refine s1_load ?_; first | refine sc_r (L_load' (by rfl) (by infer_instance) (by rfl)) (by rfl) ?_ | refine sc_r (L_load_all (by rfl) (by infer_instance) (by rfl)) (by rfl) ?_ | refine sc_r (L_load_el (by rfl) (by infer_instance) (by infer_instance) (by omega) (by first | assumption | rfl)) (by rfl) ?_ | refine sc_r (L_load_el1 (by rfl) (by infer_instance) (by omega) (by first | assumption | rfl)) (by rfl) ?_ | refine sc_r (L_load_elf (by rfl) (by infer_instance) (by omega) (by first | assumption | rfl) (by rfl) (by rfl)) (by rfl) ?_ | refine sc_r (L_load_agg (by rfl) (by infer_instance) (by assumption) (by assumption)) (by rfl) ?_ | refine sc_r (L_load (by rfl) (by infer_instance) (by assumption)) (by rfl) ?_)
    | (refine s1_fieldAddr ?_; refine sc_r (R_fieldAddr (by rfl)) (by rfl) ?_)
    | (refine s1_assign ?_; refine sc_r (R_assign (by rfl)) (by rfl) ?_)
    | (refine s1_pick ?_; first | refine sc_r (R_pick_t (by rfl) (by rfl)) (by rfl) ?_ | refine sc_r (R_pick_f (by rfl) (by rfl)) (by rfl) ?_)
    | (refine s1_bin ?_; first | refine sc_r (R_lss (by rfl) (by rfl)) (by rfl) ?_ | refine sc_r (R_add64 (by rfl) (by rfl) (by omega)) (by rfl) ?_ | refine sc_r (R_gtr (by rfl) (by rfl)) (by rfl) ?_ | refine sc_r (R_leq (by rfl) (by rfl)) (by rfl) ?_ | refine sc_r (R_geq (by rfl) (by rfl)) (by rfl) ?_ | refine sc_r (R_eql (by rfl) (by rfl)) (by rfl) ?_ | refine sc_r (R_neq (by rfl) (by rfl)) (by rfl) ?_ | refine sc_r (R_sub64 (by rfl) (by rfl) (by omega)) (by rfl) ?_ | refine sc_r (R_mul64 (by rfl) (by rfl) (by first | assumption | omega)) (by rfl) ?_)
    | (refine s1_call ?_; first | (refine sc_w (by rfl) (W_append1 (by rfl) (by rfl) (by focus ((repeat (first | exact Rem.here | apply Rem.there)); done)) (by infer_instance) (by rfl) (by rfl) (by first | assumption | omega)) (by rfl) ?_; rintro _ _ rfl) | refine sc_r (R_len (by rfl)) (by rfl) ?_ | refine sc_r (R_len_str (by rfl)) (by rfl) ?_)
    | (refine s1_indexAddr ?_; first | refine sc_r (R_indexAddr (by rfl) (by rfl) (by omega)) (by rfl) ?_ | refine sc_r (R_indexAddr_arr (by rfl) (by rfl) (by omega)) (by rfl) ?_)
    | (refine s1_store ?_; first | (refine sc_w (by rfl) (W_storeAll (by rfl) (by rfl) (by infer_instance) (by rfl) (by rfl) (by rfl)) (by rfl) ?_; rintro _ _ ⟨rfl, rfl⟩) | (refine sc_w (by rfl) (W_storeL (by rfl) (by rfl) (by infer_instance) (by rfl) (by rfl) (by rfl)) (by rfl) ?_; rintro _ _ ⟨rfl, rfl⟩) | (refine sc_w (by rfl) (W_store1 (by rfl) (by rfl) (by infer_instance) (by rfl) (by assumption) (by rfl)) (by rfl) ?_; rintro _ _ ⟨rfl, rfl⟩))
    | (refine s1_alloc ?_; first | (refine sc_w (by rfl) W_allocA (by rfl) ?_; rintro _ _ ⟨_, rfl, rfl⟩) | (refine sc_w (by rfl) (W_alloc1 (by rfl)) (by rfl) ?_; rintro _ _ ⟨_, rfl, rfl⟩))
    | (refine s1_box ?_; first | (refine sc_w (by rfl) (W_boxA (by rfl)) (by rfl) ?_; rintro _ _ ⟨_, rfl, rfl⟩) | (refine sc_w (by rfl) (W_box1 (by rfl) (by rfl)) (by rfl) ?_; rintro _ _ ⟨_, rfl, rfl⟩))
    | (refine s1_conv ?_; first | refine sc_r (R_conv64 (by rfl) (by omega)) (by rfl) ?_)
    | (refine s1_slice ?_; first | refine sc_r (R_slice_h (by rfl) (by rfl) (by omega)) (by rfl) ?_ | refine sc_r (R_slice_l (by rfl) (by rfl) (by omega)) (by rfl) ?_ | refine sc_r (R_slice_lh (by rfl) (by rfl) (by rfl) (by omega)) (by rfl) ?_)
    | (refine s1_any ?_; first | refine sc_r (R_not (by rfl)) (by rfl) ?_ | refine sc_r (R_extract (by rfl) (by rfl)) (by rfl) ?_ | (refine sc_w (by rfl) (W_buildSlice1 (by rfl) (by rfl) (by rfl) (by rfl) (by rfl)) (by rfl) ?_; rintro _ _ ⟨_, rfl, rfl⟩) | (refine sc_w (by rfl) (W_buildSlice1s (by rfl) (by rfl)) (by rfl) ?_; rintro _ _ ⟨_, rfl, rfl⟩) | (refine sc_w (by rfl) (W_buildSlice (by rfl) (by rfl) (by rfl) (by rfl)) (by rfl) ?_; rintro _ _ ⟨_, rfl, rfl⟩) | refine sc_r (R_build (by rfl) (by rfl)) (by rfl) ?_ | refine sc_r (R_nilCheck (by rfl)) (by rfl) ?_ | refine sc_r (R_nilCheck_func (by rfl)) (by rfl) ?_ | (refine sc_w (by rfl) W_makeMap (by rfl) ?_; rintro _ _ ⟨_, rfl, rfl⟩) | refine sc_r (R_makeInterface (by rfl)) (by rfl) ?_ | refine sc_r (R_makeFunc (by rfl) (by rfl)) (by rfl) ?_)
    | refine swl_nil ?_
    | refine sx_next ?_
    | refine sw_seq ?_
    | refine sw_region ?_
    | refine sw_block ?_
    | refine swl_g_on (by rfl) (by rfl) ?_
    | refine swl_g_off (by rfl) (by rfl) (by rfl) (by rfl) ?_
    | refine swl_g_un (by rfl) (by rfl) (by rfl) ?_
    | refine swl_g_pos (by rfl) (by rfl) (by first | assumption | omega) ?_
    | refine swl_g_neg (by rfl) (by rfl) (by first | assumption | omega) ?_
    | refine swl_g_npos (by rfl) (by rfl) (by first | assumption | omega) ?_
    | refine swl_g_nneg (by rfl) (by rfl) (by first | assumption | omega) ?_
    | refine swl_g_dec (by rfl) (by rfl) (fun hp => ?_) (fun hp => ?_)
    | refine swl_g_ndec (by rfl) (by rfl) (fun hp => ?_) (fun hp => ?_)
    | refine swl_g_bool (by rfl) (by rfl) (fun hp => ?_) (fun hp => ?_)
    | refine sx_past_ret ?_
    | refine sx_past_exit ?_
    | refine sx_block_normal ?_
    | refine sx_block_ret ?_
    | refine sx_block_here ?_
    | refine sx_block_past (by rfl) ?_
    | refine sw_cond_true (by rfl) ?_
    | refine sw_cond_false (by rfl) ?_
    | refine sw_cond_pos (by rfl) (by first | assumption | omega) ?_
    | refine sw_cond_neg (by rfl) (by first | assumption | omega) ?_
    | refine sw_cond_npos (by rfl) (by first | assumption | omega) ?_
    | refine sw_cond_nneg (by rfl) (by first | assumption | omega) ?_
    | refine sw_cond_dec (by rfl) (fun hp => ?_) (fun hp => ?_)
    | refine sw_cond_not (by rfl) (fun hp => ?_) (fun hp => ?_)
    | refine sw_cond_bool (by rfl) (fun hp => ?_) (fun hp => ?_)
    | refine sw_ret ?_
    | refine sw_exit ?_
    | refine sw_skip ?_)
    all_goals try (refine sx_ret_of (res1 rfl (ResOne.tmp rfl)) L ⟨congrArg Value.bool (Eq.symm (hfa ?_)), rfl⟩ (by (repeat (first | exact Ent.refl _ | exact Ent.nil | (apply Ent.pick; focus ((repeat (first | exact Rem.here | apply Rem.there)); done)) | apply Ent.drop)))
                   rw [hts, show okH ⟨xi, xt, xb⟩ = false by rw [← Bool.not_eq_true, hok]; omega]; simp; done)
    rename_i bx _ _ _ _ _
    have hk0 : okH ⟨xi, xt, xb⟩ = true := by rw [hok]; omega
    refine sw_loop (γ := Nat) (fun k => g - k) (fun k => [(0, .slice (some ⟨b1, o1, none⟩) n cp), (3, .int .i64 g), (4, .pointer (some ⟨bx, 0, none⟩)), (5, .int .i64 k)])
      (fun _ => pt bx (.cells #[.int .i64 xi, .int .i64 xt, .int .i64 xb] 37) :: L) (fun k => k ≤ g ∧ ∀ j (hj : j < k) (h : j < l.length), l[j].ino ≠ xi) 0 ⟨by omega, fun j hj => by omega⟩
      (subE.cons rfl (subE.cons rfl (subE.cons rfl (subE.cons rfl subE.nil)))) (by (repeat (first | exact Ent.refl _ | exact Ent.nil | (apply Ent.pick; focus ((repeat (first | exact Rem.here | apply Rem.there)); done)) | apply Ent.drop))) ?_
    intro k ⟨hk, hne⟩
    by_cases hkg : k < g
    · have hl2 : k < l.length := by omega
      have he2 := heats_get hl2
      have hmem : l[k] ∈ l.take g := by rw [List.mem_take_iff_getElem]; exact ⟨k, by omega, rfl⟩
      have hne' := fun (h : l[k].ino ≠ xi) j (hj : j < k + 1) (hjl : j < l.length) => (show l[j].ino ≠ xi from if hjk : j = k then by subst hjk; exact h else hne j (by omega) hjl)
      generalize hy : l[k] = y at *
      clear hy
      obtain ⟨yi, yt, yb⟩ := y
      unfold Heat.cells at he2
      dsimp only at *
      repeat' (first
    | refine swl_op ?_
    | (refine s1_move ?_; refine sc_r (R_move (by rfl)) (by rfl) ?_)
    | (refine s1_load ?_; first | refine sc_r (L_load' (by rfl) (by infer_instance) (by rfl)) (by rfl) ?_ | refine sc_r (L_load_all (by rfl) (by infer_instance) (by rfl)) (by rfl) ?_ | refine sc_r (L_load_el (by rfl) (by infer_instance) (by infer_instance) (by omega) (by first | assumption | rfl)) (by rfl) ?_ | refine sc_r (L_load_el1 (by rfl) (by infer_instance) (by omega) (by first | assumption | rfl)) (by rfl) ?_ | refine sc_r (L_load_elf (by rfl) (by infer_instance) (by omega) (by first | assumption | rfl) (by rfl) (by rfl)) (by rfl) ?_ | refine sc_r (L_load_agg (by rfl) (by infer_instance) (by assumption) (by assumption)) (by rfl) ?_ | refine sc_r (L_load (by rfl) (by infer_instance) (by assumption)) (by rfl) ?_)
    | (refine s1_fieldAddr ?_; refine sc_r (R_fieldAddr (by rfl)) (by rfl) ?_)
    | (refine s1_assign ?_; refine sc_r (R_assign (by rfl)) (by rfl) ?_)
    | (refine s1_pick ?_; first | refine sc_r (R_pick_t (by rfl) (by rfl)) (by rfl) ?_ | refine sc_r (R_pick_f (by rfl) (by rfl)) (by rfl) ?_)
    | (refine s1_bin ?_; first | refine sc_r (R_lss (by rfl) (by rfl)) (by rfl) ?_ | refine sc_r (R_add64 (by rfl) (by rfl) (by omega)) (by rfl) ?_ | refine sc_r (R_gtr (by rfl) (by rfl)) (by rfl) ?_ | refine sc_r (R_leq (by rfl) (by rfl)) (by rfl) ?_ | refine sc_r (R_geq (by rfl) (by rfl)) (by rfl) ?_ | refine sc_r (R_eql (by rfl) (by rfl)) (by rfl) ?_ | refine sc_r (R_neq (by rfl) (by rfl)) (by rfl) ?_ | refine sc_r (R_sub64 (by rfl) (by rfl) (by omega)) (by rfl) ?_ | refine sc_r (R_mul64 (by rfl) (by rfl) (by first | assumption | omega)) (by rfl) ?_)
    | (refine s1_call ?_; first | (refine sc_w (by rfl) (W_append1 (by rfl) (by rfl) (by focus ((repeat (first | exact Rem.here | apply Rem.there)); done)) (by infer_instance) (by rfl) (by rfl) (by first | assumption | omega)) (by rfl) ?_; rintro _ _ rfl) | refine sc_r (R_len (by rfl)) (by rfl) ?_ | refine sc_r (R_len_str (by rfl)) (by rfl) ?_)
    | (refine s1_indexAddr ?_; first | refine sc_r (R_indexAddr (by rfl) (by rfl) (by omega)) (by rfl) ?_ | refine sc_r (R_indexAddr_arr (by rfl) (by rfl) (by omega)) (by rfl) ?_)
    | (refine s1_store ?_; first | (refine sc_w (by rfl) (W_storeAll (by rfl) (by rfl) (by infer_instance) (by rfl) (by rfl) (by rfl)) (by rfl) ?_; rintro _ _ ⟨rfl, rfl⟩) | (refine sc_w (by rfl) (W_storeL (by rfl) (by rfl) (by infer_instance) (by rfl) (by rfl) (by rfl)) (by rfl) ?_; rintro _ _ ⟨rfl, rfl⟩) | (refine sc_w (by rfl) (W_store1 (by rfl) (by rfl) (by infer_instance) (by rfl) (by assumption) (by rfl)) (by rfl) ?_; rintro _ _ ⟨rfl, rfl⟩))
    | (refine s1_alloc ?_; first | (refine sc_w (by rfl) W_allocA (by rfl) ?_; rintro _ _ ⟨_, rfl, rfl⟩) | (refine sc_w (by rfl) (W_alloc1 (by rfl)) (by rfl) ?_; rintro _ _ ⟨_, rfl, rfl⟩))
    | (refine s1_box ?_; first | (refine sc_w (by rfl) (W_boxA (by rfl)) (by rfl) ?_; rintro _ _ ⟨_, rfl, rfl⟩) | (refine sc_w (by rfl) (W_box1 (by rfl) (by rfl)) (by rfl) ?_; rintro _ _ ⟨_, rfl, rfl⟩))
    | (refine s1_conv ?_; first | refine sc_r (R_conv64 (by rfl) (by omega)) (by rfl) ?_)
    | (refine s1_slice ?_; first | refine sc_r (R_slice_h (by rfl) (by rfl) (by omega)) (by rfl) ?_ | refine sc_r (R_slice_l (by rfl) (by rfl) (by omega)) (by rfl) ?_ | refine sc_r (R_slice_lh (by rfl) (by rfl) (by rfl) (by omega)) (by rfl) ?_)
    | (refine s1_any ?_; first | refine sc_r (R_not (by rfl)) (by rfl) ?_ | refine sc_r (R_extract (by rfl) (by rfl)) (by rfl) ?_ | (refine sc_w (by rfl) (W_buildSlice1 (by rfl) (by rfl) (by rfl) (by rfl) (by rfl)) (by rfl) ?_; rintro _ _ ⟨_, rfl, rfl⟩) | (refine sc_w (by rfl) (W_buildSlice1s (by rfl) (by rfl)) (by rfl) ?_; rintro _ _ ⟨_, rfl, rfl⟩) | (refine sc_w (by rfl) (W_buildSlice (by rfl) (by rfl) (by rfl) (by rfl)) (by rfl) ?_; rintro _ _ ⟨_, rfl, rfl⟩) | refine sc_r (R_build (by rfl) (by rfl)) (by rfl) ?_ | refine sc_r (R_nilCheck (by rfl)) (by rfl) ?_ | refine sc_r (R_nilCheck_func (by rfl)) (by rfl) ?_ | (refine sc_w (by rfl) W_makeMap (by rfl) ?_; rintro _ _ ⟨_, rfl, rfl⟩) | refine sc_r (R_makeInterface (by rfl)) (by rfl) ?_ | refine sc_r (R_makeFunc (by rfl) (by rfl)) (by rfl) ?_)
    | refine swl_nil ?_
    | refine sx_next ?_
    | refine sw_seq ?_
    | refine sw_region ?_
    | refine sw_block ?_
    | refine swl_g_on (by rfl) (by rfl) ?_
    | refine swl_g_off (by rfl) (by rfl) (by rfl) (by rfl) ?_
    | refine swl_g_un (by rfl) (by rfl) (by rfl) ?_
    | refine swl_g_pos (by rfl) (by rfl) (by first | assumption | omega) ?_
    | refine swl_g_neg (by rfl) (by rfl) (by first | assumption | omega) ?_
    | refine swl_g_npos (by rfl) (by rfl) (by first | assumption | omega) ?_
    | refine swl_g_nneg (by rfl) (by rfl) (by first | assumption | omega) ?_
    | refine swl_g_dec (by rfl) (by rfl) (fun hp => ?_) (fun hp => ?_)
    | refine swl_g_ndec (by rfl) (by rfl) (fun hp => ?_) (fun hp => ?_)
    | refine swl_g_bool (by rfl) (by rfl) (fun hp => ?_) (fun hp => ?_)
    | refine sx_past_ret ?_
    | refine sx_past_exit ?_
    | refine sx_block_normal ?_
    | refine sx_block_ret ?_
    | refine sx_block_here ?_
    | refine sx_block_past (by rfl) ?_
    | refine sw_cond_true (by rfl) ?_
    | refine sw_cond_false (by rfl) ?_
    | refine sw_cond_pos (by rfl) (by first | assumption | omega) ?_
    | refine sw_cond_neg (by rfl) (by first | assumption | omega) ?_
    | refine sw_cond_npos (by rfl) (by first | assumption | omega) ?_
    | refine sw_cond_nneg (by rfl) (by first | assumption | omega) ?_
    | refine sw_cond_dec (by rfl) (fun hp => ?_) (fun hp => ?_)
    | refine sw_cond_not (by rfl) (fun hp => ?_) (fun hp => ?_)
    | refine sw_cond_bool (by rfl) (fun hp => ?_) (fun hp => ?_)
    | refine sw_ret ?_
    | refine sw_exit ?_
    | refine sw_skip ?_
    | refine swh_lt (by rfl) (fun _ _ => wanted_none) ?_
    | refine swh_lt (by rfl) (wanted_on (by rfl) (by rfl)) ?_
    | refine swh_off (by rfl) (by rfl) (by rfl) (by rfl) (by rfl) ?_
    | refine swh_heavy_off (by rfl) (by rfl) (by rfl) (by rfl) (by rfl) ?_
    | refine swh_un (by rfl) (by rfl) (by rfl) (by rfl) ?_
    | refine swh_heavy_un (by rfl) (by rfl) (by rfl) (by rfl) ?_
    | refine swh_hv (by rfl) (fun _ _ => wanted_none) ?_
    | refine swh_hv (by rfl) (wanted_on (by rfl) (by rfl)) ?_
    | refine swh_g_pos (by rfl) (by rfl) (by rfl) (by first | assumption | omega) ?_
    | refine swh_g_neg (by rfl) (by rfl) (by rfl) (by first | assumption | omega) ?_
    | refine swh_g_npos (by rfl) (by rfl) (by rfl) (by first | assumption | omega) ?_
    | refine swh_g_nneg (by rfl) (by rfl) (by rfl) (by first | assumption | omega) ?_
    | refine swh_g_dec (by rfl) (by rfl) (by rfl) (fun hp => ?_) (fun hp => ?_)
    | refine swh_g_ndec (by rfl) (by rfl) (by rfl) (fun hp => ?_) (fun hp => ?_)
    | refine swh_g_bool (by rfl) (by rfl) (by rfl) (fun hp => ?_) (fun hp => ?_)
    | refine swh_nil ?_
    | (apply And.intro; focus ((repeat (first | exact Ent.refl _ | exact Ent.nil | (apply Ent.pick; focus ((repeat (first | exact Rem.here | apply Rem.there)); done)) | apply Ent.drop)); done))
    | (refine sw_draw [(0, true), (1, true), (2, true), (3, true), (4, true), (5, true), (6, true), (7, true)] follows ?_ ?_ ?_; (focus rfl); (focus (decide +kernel))))
      · refine sx_ret_of (res1 rfl (ResOne.tmp rfl)) L ⟨congrArg Value.bool (Eq.symm (hfa ?_)), rfl⟩ (by (repeat (first | exact Ent.refl _ | exact Ent.nil | (apply Ent.pick; focus ((repeat (first | exact Rem.here | apply Rem.there)); done)) | apply Ent.drop)))
        rw [hts, hk0, show ((l.take g).map (·.ino)).contains xi = true by simp only [List.contains_iff_mem, List.mem_map]; exact ⟨_, hmem, hp⟩]; simp
      · exact sx_back (k + 1) (by omega) ⟨by omega, hne' hp⟩ (subE.cons rfl (subE.cons rfl (subE.cons rfl (subE.cons rfl subE.nil)))) (by (repeat (first | exact Ent.refl _ | exact Ent.nil | (apply Ent.pick; focus ((repeat (first | exact Rem.here | apply Rem.there)); done)) | apply Ent.drop)))
    · repeat' (first
    | refine swl_op ?_
    | (refine s1_move ?_; refine sc_r (R_move (by rfl)) (by rfl) ?_)
    | (refine s1_load ?_; first | refine sc_r (L_load' (by rfl) (by infer_instance) (by rfl)) (by rfl) ?_ | refine sc_r (L_load_all (by rfl) (by infer_instance) (by rfl)) (by rfl) ?_ | refine sc_r (L_load_el (by rfl) (by infer_instance) (by infer_instance) (by omega) (by first | assumption | rfl)) (by rfl) ?_ | refine sc_r (L_load_el1 (by rfl) (by infer_instance) (by omega) (by first | assumption | rfl)) (by rfl) ?_ | refine sc_r (L_load_elf (by rfl) (by infer_instance) (by omega) (by first | assumption | rfl) (by rfl) (by rfl)) (by rfl) ?_ | refine sc_r (L_load_agg (by rfl) (by infer_instance) (by assumption) (by assumption)) (by rfl) ?_ | refine sc_r (L_load (by rfl) (by infer_instance) (by assumption)) (by rfl) ?_)
    | (refine s1_fieldAddr ?_; refine sc_r (R_fieldAddr (by rfl)) (by rfl) ?_)
    | (refine s1_assign ?_; refine sc_r (R_assign (by rfl)) (by rfl) ?_)
    | (refine s1_pick ?_; first | refine sc_r (R_pick_t (by rfl) (by rfl)) (by rfl) ?_ | refine sc_r (R_pick_f (by rfl) (by rfl)) (by rfl) ?_)
    | (refine s1_bin ?_; first | refine sc_r (R_lss (by rfl) (by rfl)) (by rfl) ?_ | refine sc_r (R_add64 (by rfl) (by rfl) (by omega)) (by rfl) ?_ | refine sc_r (R_gtr (by rfl) (by rfl)) (by rfl) ?_ | refine sc_r (R_leq (by rfl) (by rfl)) (by rfl) ?_ | refine sc_r (R_geq (by rfl) (by rfl)) (by rfl) ?_ | refine sc_r (R_eql (by rfl) (by rfl)) (by rfl) ?_ | refine sc_r (R_neq (by rfl) (by rfl)) (by rfl) ?_ | refine sc_r (R_sub64 (by rfl) (by rfl) (by omega)) (by rfl) ?_ | refine sc_r (R_mul64 (by rfl) (by rfl) (by first | assumption | omega)) (by rfl) ?_)
    | (refine s1_call ?_; first | (refine sc_w (by rfl) (W_append1 (by rfl) (by rfl) (by focus ((repeat (first | exact Rem.here | apply Rem.there)); done)) (by infer_instance) (by rfl) (by rfl) (by first | assumption | omega)) (by rfl) ?_; rintro _ _ rfl) | refine sc_r (R_len (by rfl)) (by rfl) ?_ | refine sc_r (R_len_str (by rfl)) (by rfl) ?_)
    | (refine s1_indexAddr ?_; first | refine sc_r (R_indexAddr (by rfl) (by rfl) (by omega)) (by rfl) ?_ | refine sc_r (R_indexAddr_arr (by rfl) (by rfl) (by omega)) (by rfl) ?_)
    | (refine s1_store ?_; first | (refine sc_w (by rfl) (W_storeAll (by rfl) (by rfl) (by infer_instance) (by rfl) (by rfl) (by rfl)) (by rfl) ?_; rintro _ _ ⟨rfl, rfl⟩) | (refine sc_w (by rfl) (W_storeL (by rfl) (by rfl) (by infer_instance) (by rfl) (by rfl) (by rfl)) (by rfl) ?_; rintro _ _ ⟨rfl, rfl⟩) | (refine sc_w (by rfl) (W_store1 (by rfl) (by rfl) (by infer_instance) (by rfl) (by assumption) (by rfl)) (by rfl) ?_; rintro _ _ ⟨rfl, rfl⟩))
    | (refine s1_alloc ?_; first | (refine sc_w (by rfl) W_allocA (by rfl) ?_; rintro _ _ ⟨_, rfl, rfl⟩) | (refine sc_w (by rfl) (W_alloc1 (by rfl)) (by rfl) ?_; rintro _ _ ⟨_, rfl, rfl⟩))
    | (refine s1_box ?_; first | (refine sc_w (by rfl) (W_boxA (by rfl)) (by rfl) ?_; rintro _ _ ⟨_, rfl, rfl⟩) | (refine sc_w (by rfl) (W_box1 (by rfl) (by rfl)) (by rfl) ?_; rintro _ _ ⟨_, rfl, rfl⟩))
    | (refine s1_conv ?_; first | refine sc_r (R_conv64 (by rfl) (by omega)) (by rfl) ?_)
    | (refine s1_slice ?_; first | refine sc_r (R_slice_h (by rfl) (by rfl) (by omega)) (by rfl) ?_ | refine sc_r (R_slice_l (by rfl) (by rfl) (by omega)) (by rfl) ?_ | refine sc_r (R_slice_lh (by rfl) (by rfl) (by rfl) (by omega)) (by rfl) ?_)
    | (refine s1_any ?_; first | refine sc_r (R_not (by rfl)) (by rfl) ?_ | refine sc_r (R_extract (by rfl) (by rfl)) (by rfl) ?_ | (refine sc_w (by rfl) (W_buildSlice1 (by rfl) (by rfl) (by rfl) (by rfl) (by rfl)) (by rfl) ?_; rintro _ _ ⟨_, rfl, rfl⟩) | (refine sc_w (by rfl) (W_buildSlice1s (by rfl) (by rfl)) (by rfl) ?_; rintro _ _ ⟨_, rfl, rfl⟩) | (refine sc_w (by rfl) (W_buildSlice (by rfl) (by rfl) (by rfl) (by rfl)) (by rfl) ?_; rintro _ _ ⟨_, rfl, rfl⟩) | refine sc_r (R_build (by rfl) (by rfl)) (by rfl) ?_ | refine sc_r (R_nilCheck (by rfl)) (by rfl) ?_ | refine sc_r (R_nilCheck_func (by rfl)) (by rfl) ?_ | (refine sc_w (by rfl) W_makeMap (by rfl) ?_; rintro _ _ ⟨_, rfl, rfl⟩) | refine sc_r (R_makeInterface (by rfl)) (by rfl) ?_ | refine sc_r (R_makeFunc (by rfl) (by rfl)) (by rfl) ?_)
    | refine swl_nil ?_
    | refine sx_next ?_
    | refine sw_seq ?_
    | refine sw_region ?_
    | refine sw_block ?_
    | refine swl_g_on (by rfl) (by rfl) ?_
    | refine swl_g_off (by rfl) (by rfl) (by rfl) (by rfl) ?_
    | refine swl_g_un (by rfl) (by rfl) (by rfl) ?_
    | refine swl_g_pos (by rfl) (by rfl) (by first | assumption | omega) ?_
    | refine swl_g_neg (by rfl) (by rfl) (by first | assumption | omega) ?_
    | refine swl_g_npos (by rfl) (by rfl) (by first | assumption | omega) ?_
    | refine swl_g_nneg (by rfl) (by rfl) (by first | assumption | omega) ?_
    | refine swl_g_dec (by rfl) (by rfl) (fun hp => ?_) (fun hp => ?_)
    | refine swl_g_ndec (by rfl) (by rfl) (fun hp => ?_) (fun hp => ?_)
    | refine swl_g_bool (by rfl) (by rfl) (fun hp => ?_) (fun hp => ?_)
    | refine sx_past_ret ?_
    | refine sx_past_exit ?_
    | refine sx_block_normal ?_
    | refine sx_block_ret ?_
    | refine sx_block_here ?_
    | refine sx_block_past (by rfl) ?_
    | refine sw_cond_true (by rfl) ?_
    | refine sw_cond_false (by rfl) ?_
    | refine sw_cond_pos (by rfl) (by first | assumption | omega) ?_
    | refine sw_cond_neg (by rfl) (by first | assumption | omega) ?_
    | refine sw_cond_npos (by rfl) (by first | assumption | omega) ?_
    | refine sw_cond_nneg (by rfl) (by first | assumption | omega) ?_
    | refine sw_cond_dec (by rfl) (fun hp => ?_) (fun hp => ?_)
    | refine sw_cond_not (by rfl) (fun hp => ?_) (fun hp => ?_)
    | refine sw_cond_bool (by rfl) (fun hp => ?_) (fun hp => ?_)
    | refine sw_ret ?_
    | refine sw_exit ?_
    | refine sw_skip ?_)
      refine sx_back (g + 1) (by omega) ⟨by omega, ?_⟩ (subE.cons rfl (subE.cons rfl subE.nil)) (by (repeat (first | exact Ent.refl _ | exact Ent.nil | (apply Ent.pick; focus ((repeat (first | exact Rem.here | apply Rem.there)); done)) | apply Ent.drop)))
      rw [hts, hm, hk0, show ((l.take g).map (·.ino)).contains xi = false by
        rw [← Bool.not_eq_true]
        simp only [List.contains_iff_mem, List.mem_map]
        rintro ⟨z, hz, rfl⟩
        rw [List.mem_take_iff_getElem] at hz
        obtain ⟨j, hj, rfl⟩ := hz
        exact hne j (by omega) (by omega) rfl]
      rfl
  · repeat' (first
    | refine swl_op ?_
    | (refine s1_move ?_; refine sc_r (R_move (by rfl)) (by rfl) ?_)
    | (refine s1_load ?_; first | refine sc_r (L_load' (by rfl) (by infer_instance) (by rfl)) (by rfl) ?_ | refine sc_r (L_load_all (by rfl) (by infer_instance) (by rfl)) (by rfl) ?_ | refine sc_r (L_load_el (by rfl) (by infer_instance) (by infer_instance) (by omega) (by first | assumption | rfl)) (by rfl) ?_ | refine sc_r (L_load_el1 (by rfl) (by infer_instance) (by omega) (by first | assumption | rfl)) (by rfl) ?_ | refine sc_r (L_load_elf (by rfl) (by infer_instance) (by omega) (by first | assumption | rfl) (by rfl) (by rfl)) (by rfl) ?_ | refine sc_r (L_load_agg (by rfl) (by infer_instance) (by assumption) (by assumption)) (by rfl) ?_ | refine sc_r (L_load (by rfl) (by infer_instance) (by assumption)) (by rfl) ?_)
    | (refine s1_fieldAddr ?_; refine sc_r (R_fieldAddr (by rfl)) (by rfl) ?_)
    | (refine s1_assign ?_; refine sc_r (R_assign (by rfl)) (by rfl) ?_)
    | (refine s1_pick ?_; first | refine sc_r (R_pick_t (by rfl) (by rfl)) (by rfl) ?_ | refine sc_r (R_pick_f (by rfl) (by rfl)) (by rfl) ?_)
    | (refine s1_bin ?_; first | refine sc_r (R_lss (by rfl) (by rfl)) (by rfl) ?_ | refine sc_r (R_add64 (by rfl) (by rfl) (by omega)) (by rfl) ?_ | refine sc_r (R_gtr (by rfl) (by rfl)) (by rfl) ?_ | refine sc_r (R_leq (by rfl) (by rfl)) (by rfl) ?_ | refine sc_r (R_geq (by rfl) (by rfl)) (by rfl) ?_ | refine sc_r (R_eql (by rfl) (by rfl)) (by rfl) ?_ | refine sc_r (R_neq (by rfl) (by rfl)) (by rfl) ?_ | refine sc_r (R_sub64 (by rfl) (by rfl) (by omega)) (by rfl) ?_ | refine sc_r (R_mul64 (by rfl) (by rfl) (by first | assumption | omega)) (by rfl) ?_)
    | (refine s1_call ?_; first | (refine sc_w (by rfl) (W_append1 (by rfl) (by rfl) (by focus ((repeat (first | exact Rem.here | apply Rem.there)); done)) (by infer_instance) (by rfl) (by rfl) (by first | assumption | omega)) (by rfl) ?_; rintro _ _ rfl) | refine sc_r (R_len (by rfl)) (by rfl) ?_ | refine sc_r (R_len_str (by rfl)) (by rfl) ?_)
    | (refine s1_indexAddr ?_; first | refine sc_r (R_indexAddr (by rfl) (by rfl) (by omega)) (by rfl) ?_ | refine sc_r (R_indexAddr_arr (by rfl) (by rfl) (by omega)) (by rfl) ?_)
    | (refine s1_store ?_; first | (refine sc_w (by rfl) (W_storeAll (by rfl) (by rfl) (by infer_instance) (by rfl) (by rfl) (by rfl)) (by rfl) ?_; rintro _ _ ⟨rfl, rfl⟩) | (refine sc_w (by rfl) (W_storeL (by rfl) (by rfl) (by infer_instance) (by rfl) (by rfl) (by rfl)) (by rfl) ?_; rintro _ _ ⟨rfl, rfl⟩) | (refine sc_w (by rfl) (W_store1 (by rfl) (by rfl) (by infer_instance) (by rfl) (by assumption) (by rfl)) (by rfl) ?_; rintro _ _ ⟨rfl, rfl⟩))
    | (refine s1_alloc ?_; first | (refine sc_w (by rfl) W_allocA (by rfl) ?_; rintro _ _ ⟨_, rfl, rfl⟩) | (refine sc_w (by rfl) (W_alloc1 (by rfl)) (by rfl) ?_; rintro _ _ ⟨_, rfl, rfl⟩))
    | (refine s1_box ?_; first | (refine sc_w (by rfl) (W_boxA (by rfl)) (by rfl) ?_; rintro _ _ ⟨_, rfl, rfl⟩) | (refine sc_w (by rfl) (W_box1 (by rfl) (by rfl)) (by rfl) ?_; rintro _ _ ⟨_, rfl, rfl⟩))
    | (refine s1_conv ?_; first | refine sc_r (R_conv64 (by rfl) (by omega)) (by rfl) ?_)
    | (refine s1_slice ?_; first | refine sc_r (R_slice_h (by rfl) (by rfl) (by omega)) (by rfl) ?_ | refine sc_r (R_slice_l (by rfl) (by rfl) (by omega)) (by rfl) ?_ | refine sc_r (R_slice_lh (by rfl) (by rfl) (by rfl) (by omega)) (by rfl) ?_)
    | (refine s1_any ?_; first | refine sc_r (R_not (by rfl)) (by rfl) ?_ | refine sc_r (R_extract (by rfl) (by rfl)) (by rfl) ?_ | (refine sc_w (by rfl) (W_buildSlice1 (by rfl) (by rfl) (by rfl) (by rfl) (by rfl)) (by rfl) ?_; rintro _ _ ⟨_, rfl, rfl⟩) | (refine sc_w (by rfl) (W_buildSlice1s (by rfl) (by rfl)) (by rfl) ?_; rintro _ _ ⟨_, rfl, rfl⟩) | (refine sc_w (by rfl) (W_buildSlice (by rfl) (by rfl) (by rfl) (by rfl)) (by rfl) ?_; rintro _ _ ⟨_, rfl, rfl⟩) | refine sc_r (R_build (by rfl) (by rfl)) (by rfl) ?_ | refine sc_r (R_nilCheck (by rfl)) (by rfl) ?_ | refine sc_r (R_nilCheck_func (by rfl)) (by rfl) ?_ | (refine sc_w (by rfl) W_makeMap (by rfl) ?_; rintro _ _ ⟨_, rfl, rfl⟩) | refine sc_r (R_makeInterface (by rfl)) (by rfl) ?_ | refine sc_r (R_makeFunc (by rfl) (by rfl)) (by rfl) ?_)
    | refine swl_nil ?_
    | refine sx_next ?_
    | refine sw_seq ?_
    | refine sw_region ?_
    | refine sw_block ?_
    | refine swl_g_on (by rfl) (by rfl) ?_
    | refine swl_g_off (by rfl) (by rfl) (by rfl) (by rfl) ?_
    | refine swl_g_un (by rfl) (by rfl) (by rfl) ?_
    | refine swl_g_pos (by rfl) (by rfl) (by first | assumption | omega) ?_
    | refine swl_g_neg (by rfl) (by rfl) (by first | assumption | omega) ?_
    | refine swl_g_npos (by rfl) (by rfl) (by first | assumption | omega) ?_
    | refine swl_g_nneg (by rfl) (by rfl) (by first | assumption | omega) ?_
    | refine swl_g_dec (by rfl) (by rfl) (fun hp => ?_) (fun hp => ?_)
    | refine swl_g_ndec (by rfl) (by rfl) (fun hp => ?_) (fun hp => ?_)
    | refine swl_g_bool (by rfl) (by rfl) (fun hp => ?_) (fun hp => ?_)
    | refine sx_past_ret ?_
    | refine sx_past_exit ?_
    | refine sx_block_normal ?_
    | refine sx_block_ret ?_
    | refine sx_block_here ?_
    | refine sx_block_past (by rfl) ?_
    | refine sw_cond_true (by rfl) ?_
    | refine sw_cond_false (by rfl) ?_
    | refine sw_cond_pos (by rfl) (by first | assumption | omega) ?_
    | refine sw_cond_neg (by rfl) (by first | assumption | omega) ?_
    | refine sw_cond_npos (by rfl) (by first | assumption | omega) ?_
    | refine sw_cond_nneg (by rfl) (by first | assumption | omega) ?_
    | refine sw_cond_dec (by rfl) (fun hp => ?_) (fun hp => ?_)
    | refine sw_cond_not (by rfl) (fun hp => ?_) (fun hp => ?_)
    | refine sw_cond_bool (by rfl) (fun hp => ?_) (fun hp => ?_)
    | refine sw_ret ?_
    | refine sw_exit ?_
    | refine sw_skip ?_)
    refine sx_ret_of (res1 rfl (ResOne.tmp rfl)) L ⟨?_, rfl⟩ (by (repeat (first | exact Ent.refl _ | exact Ent.nil | (apply Ent.pick; focus ((repeat (first | exact Rem.here | apply Rem.there)); done)) | apply Ent.drop)))
    rw [List.take_of_length_le (by omega)] at hm
    rw [hm]

end Go.Proofs.Ytcdpiedgfkebcaa
