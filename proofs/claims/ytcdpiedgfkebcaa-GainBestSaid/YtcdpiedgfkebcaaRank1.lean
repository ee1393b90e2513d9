/-
  Small readers of the ranking: which uses may be; the first of a list's numbers; who is busy.
-/
import Derived.Test.YtcdpiedgfkebcaaGain1
import Derived.Test.YtcdpiedgfkebcaaBase9
namespace Go.Proofs.Ytcdpiedgfkebcaa
open Go Go.SL Go.Proofs

theorem uses_get {l : List Use} {g : Nat} (h : g < l.length) : (l.map Use.cells).getD g #[] = l[g].cells := by simp [h]
theorem ints_get {l : List Int} {g : Nat} (h : g < l.length) : (l.map fun z => #[Value.int .i64 z]).getD g #[] = #[Value.int .i64 l[g]] := by simp [h]

theorem rank1 (u : Use) (now : Int) (b : Nat) {T : TypeId} {L : List HP} (hb : ReadC L b (.cells #[.int .i64 now] T)) : Tr Try.prog 36 [.agg u.cells, .pointer (some ⟨b, 0, none⟩)].toArray L (fun v L' => v = .bool (!mayU u now) ∧ L = L') := by
  refine tr_enter Try.func36 rfl Try.ntmps36 rfl fun w0 => ?_
  unfold Use.cells
  repeat' (first
    | refine swl_op ?_
    | (refine s1_move ?_; refine sc_r (R_move (by rfl)) (by rfl) ?_)
    | (refine s1_load ?_; first | refine sc_r (L_load' (by rfl) (by infer_instance) (by rfl)) (by rfl) ?_ | refine sc_r (L_load_all (by rfl) (by infer_instance) (by rfl)) (by rfl) ?_ | refine sc_r (L_load_el (by rfl) (by infer_instance) (by infer_instance) (by omega) (by first | assumption | rfl)) (by rfl) ?_ | refine sc_r (L_load_el1 (by rfl) (by infer_instance) (by omega) (by first | assumption | rfl)) (by rfl) ?_ | refine sc_r (L_load_elf (by rfl) (by infer_instance) (by omega) (by first | assumption | rfl) (by rfl) (by rfl)) (by rfl) ?_ | refine sc_r (L_load_agg (by rfl) (by infer_instance) (by assumption) (by assumption)) (by rfl) ?_ | refine sc_r (L_load (by rfl) (by infer_instance) (by assumption)) (by rfl) ?_)
    | (refine s1_fieldAddr ?_; refine sc_r (R_fieldAddr (by rfl)) (by rfl) ?_)
    | (refine s1_assign ?_; refine sc_r (R_assign (by rfl)) (by rfl) ?_)
    | (refine s1_pick ?_; first | refine sc_r (R_pick_t (by rfl) (by rfl)) (by rfl) ?_ | refine sc_r (R_pick_f (by rfl) (by rfl)) (by rfl) ?_)
    | (refine s1_bin ?_; first | refine sc_r (R_lss (by rfl) (by rfl)) (by rfl) ?_ | refine sc_r (R_add64 (by rfl) (by rfl) (by omega)) (by rfl) ?_ | refine sc_r (R_gtr (by rfl) (by rfl)) (by rfl) ?_ | refine sc_r (R_leq (by rfl) (by rfl)) (by rfl) ?_ | refine sc_r (R_geq (by rfl) (by rfl)) (by rfl) ?_ | refine sc_r (R_eql (by rfl) (by rfl)) (by rfl) ?_ | refine sc_r (R_neq (by rfl) (by rfl)) (by rfl) ?_ | refine sc_r (R_sub64 (by rfl) (by rfl) (by omega)) (by rfl) ?_ | refine sc_r (R_mul64 (by rfl) (by rfl) (by first | assumption | omega)) (by rfl) ?_)
    | (refine s1_call ?_; first | (refine sc_c (by rfl) (C_call (by rfl) (by infer_instance) (by rfl) (by rfl) (gain_May u now)) (by rfl) ?_; rintro _ _ ⟨rfl, rfl⟩) | (refine sc_w (by rfl) (W_append1 (by rfl) (by rfl) (by focus ((repeat (first | exact Rem.here | apply Rem.there)); done)) (by infer_instance) (by rfl) (by rfl) (by first | assumption | omega)) (by rfl) ?_; rintro _ _ rfl) | refine sc_r (R_len (by rfl)) (by rfl) ?_ | refine sc_r (R_len_str (by rfl)) (by rfl) ?_)
    | (refine s1_indexAddr ?_; first | refine sc_r (R_indexAddr (by rfl) (by rfl) (by omega)) (by rfl) ?_ | refine sc_r (R_indexAddr_arr (by rfl) (by rfl) (by omega)) (by rfl) ?_)
    | (refine s1_store ?_; first | (refine sc_w (by rfl) (W_storeAll (by rfl) (by rfl) (by infer_instance) (by rfl) (by rfl) (by rfl)) (by rfl) ?_; rintro _ _ ⟨rfl, rfl⟩) | (refine sc_w (by rfl) (W_storeL (by rfl) (by rfl) (by infer_instance) (by rfl) (by rfl) (by rfl)) (by rfl) ?_; rintro _ _ ⟨rfl, rfl⟩) | (refine sc_w (by rfl) (W_store1 (by rfl) (by rfl) (by infer_instance) (by rfl) (by assumption) (by rfl)) (by rfl) ?_; rintro _ _ ⟨rfl, rfl⟩))
    | (refine s1_alloc ?_; first | (refine sc_w (by rfl) W_allocA (by rfl) ?_; rintro _ _ ⟨_, rfl, rfl⟩) | (refine sc_w (by rfl) (W_alloc1 (by rfl)) (by rfl) ?_; rintro _ _ ⟨_, rfl, rfl⟩))
    | (refine s1_box ?_; first | (refine sc_w (by rfl) (W_boxA (by rfl)) (by rfl) ?_; rintro _ _ ⟨_, rfl, rfl⟩) | (refine sc_w (by rfl) (W_box1 (by rfl) (by rfl)) (by rfl) ?_; rintro _ _ ⟨_, rfl, rfl⟩))
    | (refine s1_conv ?_; first | refine sc_r (R_conv64 (by rfl) (by omega)) (by rfl) ?_)
    | (refine s1_slice ?_; first | refine sc_r (R_slice_h (by rfl) (by rfl) (by omega)) (by rfl) ?_ | refine sc_r (R_slice_l (by rfl) (by rfl) (by omega)) (by rfl) ?_ | refine sc_r (R_slice_lh (by rfl) (by rfl) (by rfl) (by omega)) (by rfl) ?_)
    | (refine s1_any ?_; first | refine sc_r (R_not (by rfl)) (by rfl) ?_ | refine sc_r (R_extract (by rfl) (by rfl)) (by rfl) ?_ | (refine sc_w (by rfl) (W_buildSlice1 (by rfl) (by rfl) (by rfl) (by rfl) (by rfl)) (by rfl) ?_; rintro _ _ ⟨_, rfl, rfl⟩) | (refine sc_w (by rfl) (W_buildSlice1s (by rfl) (by rfl)) (by rfl) ?_; rintro _ _ ⟨_, rfl, rfl⟩) | (refine sc_w (by rfl) (W_buildSlice (by rfl) (by rfl) (by rfl) (by rfl)) (by rfl) ?_; rintro _ _ ⟨_, rfl, rfl⟩) | refine sc_r (R_build (by rfl) (by rfl)) (by rfl) ?_ | refine sc_r (R_nilCheck (by rfl)) (by rfl) ?_ | refine sc_r (R_nilCheck_func (by rfl)) (by rfl) ?_ | (refine sc_w (by rfl) W_makeMap (by rfl) ?_; rintro _ _ ⟨_, rfl, rfl⟩) | refine sc_r (R_makeInterface (by rfl)) (by rfl) ?_ | refine sc_r (R_makeFunc (by rfl) (by rfl)) (by rfl) ?_)
    | refine swl_nil ?_
    | refine sx_next ?_
    | refine sw_seq ?_
    | refine sw_region ?_
    | refine sw_block ?_
    | refine swl_g_on (by rfl) (by rfl) ?_
    | refine swl_g_off (by rfl) (by rfl) (by rfl) (by rfl) ?_
    | refine swl_g_un (by rfl) (by rfl) (by rfl) ?_
    | refine swl_g_pos (by rfl) (by rfl) (by first | assumption | omega) ?_
    | refine swl_g_neg (by rfl) (by rfl) (by first | assumption | omega) ?_
    | refine swl_g_npos (by rfl) (by rfl) (by first | assumption | omega) ?_
    | refine swl_g_nneg (by rfl) (by rfl) (by first | assumption | omega) ?_
    | refine swl_g_dec (by rfl) (by rfl) (fun hp => ?_) (fun hp => ?_)
    | refine swl_g_ndec (by rfl) (by rfl) (fun hp => ?_) (fun hp => ?_)
    | refine swl_g_bool (by rfl) (by rfl) (fun hp => ?_) (fun hp => ?_)
    | refine sx_past_ret ?_
    | refine sx_past_exit ?_
    | refine sx_block_normal ?_
    | refine sx_block_ret ?_
    | refine sx_block_here ?_
    | refine sx_block_past (by rfl) ?_
    | refine sw_cond_true (by rfl) ?_
    | refine sw_cond_false (by rfl) ?_
    | refine sw_cond_pos (by rfl) (by first | assumption | omega) ?_
    | refine sw_cond_neg (by rfl) (by first | assumption | omega) ?_
    | refine sw_cond_npos (by rfl) (by first | assumption | omega) ?_
    | refine sw_cond_nneg (by rfl) (by first | assumption | omega) ?_
    | refine sw_cond_dec (by rfl) (fun hp => ?_) (fun hp => ?_)
    | refine sw_cond_not (by rfl) (fun hp => ?_) (fun hp => ?_)
    | refine sw_cond_bool (by rfl) (fun hp => ?_) (fun hp => ?_)
    | refine sw_ret ?_
    | refine sw_exit ?_
    | refine sw_skip ?_)
  exact sx_ret_of (res1 rfl (ResOne.tmp rfl)) L ⟨rfl, rfl⟩ (by (repeat (first | exact Ent.refl _ | exact Ent.nil | (apply Ent.pick; focus ((repeat (first | exact Rem.here | apply Rem.there)); done)) | apply Ent.drop)))

/-- the number of the first that may not be; -1 -/
def firstNo (l : List Use) (now : Int) : Int := match l.findIdx? fun u => !mayU u now with | some i => i | none => -1

theorem indexFunc (l : List Use) (now : Int) (b : Nat) {T : TypeId} {L : List HP} {p : Option Addr} {n cp : Nat} (hl : SlC L p 2 n cp (l.map Use.cells)) (hb : ReadC L b (.cells #[.int .i64 now] T)) :
    Tr Try.prog 47 [.slice p n cp, .func (.func 36) #[] #[.pointer (some ⟨b, 0, none⟩)]].toArray L (fun v L' => ∃ z, v = .int .i64 z ∧ (0 ≤ z ↔ ∃ u ∈ l, mayU u now = false) ∧ L = L') := by
  have hlen : l.length = n := by simpa using hl.len
  have hbd := hl.bd
  refine tr_enter Try.func47 rfl Try.ntmps47 rfl fun w0 => ?_
  repeat' (first
    | refine swl_op ?_
    | (refine s1_move ?_; refine sc_r (R_move (by rfl)) (by rfl) ?_)
    | (refine s1_load ?_; first | refine sc_r (L_load' (by rfl) (by infer_instance) (by rfl)) (by rfl) ?_ | refine sc_r (L_load_all (by rfl) (by infer_instance) (by rfl)) (by rfl) ?_ | refine sc_r (L_load_el (by rfl) (by infer_instance) (by infer_instance) (by omega) (by first | assumption | rfl)) (by rfl) ?_ | refine sc_r (L_load_el1 (by rfl) (by infer_instance) (by omega) (by first | assumption | rfl)) (by rfl) ?_ | refine sc_r (L_load_elf (by rfl) (by infer_instance) (by omega) (by first | assumption | rfl) (by rfl) (by rfl)) (by rfl) ?_ | refine sc_r (L_load_agg (by rfl) (by infer_instance) (by assumption) (by assumption)) (by rfl) ?_ | refine sc_r (L_load (by rfl) (by infer_instance) (by assumption)) (by rfl) ?_)
    | (refine s1_fieldAddr ?_; refine sc_r (R_fieldAddr (by rfl)) (by rfl) ?_)
    | (refine s1_assign ?_; refine sc_r (R_assign (by rfl)) (by rfl) ?_)
    | (refine s1_pick ?_; first | refine sc_r (R_pick_t (by rfl) (by rfl)) (by rfl) ?_ | refine sc_r (R_pick_f (by rfl) (by rfl)) (by rfl) ?_)
    | (refine s1_bin ?_; first | refine sc_r (R_lss (by rfl) (by rfl)) (by rfl) ?_ | refine sc_r (R_add64 (by rfl) (by rfl) (by omega)) (by rfl) ?_ | refine sc_r (R_gtr (by rfl) (by rfl)) (by rfl) ?_ | refine sc_r (R_leq (by rfl) (by rfl)) (by rfl) ?_ | refine sc_r (R_geq (by rfl) (by rfl)) (by rfl) ?_ | refine sc_r (R_eql (by rfl) (by rfl)) (by rfl) ?_ | refine sc_r (R_neq (by rfl) (by rfl)) (by rfl) ?_ | refine sc_r (R_sub64 (by rfl) (by rfl) (by omega)) (by rfl) ?_ | refine sc_r (R_mul64 (by rfl) (by rfl) (by first | assumption | omega)) (by rfl) ?_)
    | (refine s1_call ?_; first | (refine sc_w (by rfl) (W_append1 (by rfl) (by rfl) (by focus ((repeat (first | exact Rem.here | apply Rem.there)); done)) (by infer_instance) (by rfl) (by rfl) (by first | assumption | omega)) (by rfl) ?_; rintro _ _ rfl) | refine sc_r (R_len (by rfl)) (by rfl) ?_ | refine sc_r (R_len_str (by rfl)) (by rfl) ?_)
    | (refine s1_indexAddr ?_; first | refine sc_r (R_indexAddr (by rfl) (by rfl) (by omega)) (by rfl) ?_ | refine sc_r (R_indexAddr_arr (by rfl) (by rfl) (by omega)) (by rfl) ?_)
    | (refine s1_store ?_; first | (refine sc_w (by rfl) (W_storeAll (by rfl) (by rfl) (by infer_instance) (by rfl) (by rfl) (by rfl)) (by rfl) ?_; rintro _ _ ⟨rfl, rfl⟩) | (refine sc_w (by rfl) (W_storeL (by rfl) (by rfl) (by infer_instance) (by rfl) (by rfl) (by rfl)) (by rfl) ?_; rintro _ _ ⟨rfl, rfl⟩) | (refine sc_w (by rfl) (W_store1 (by rfl) (by rfl) (by infer_instance) (by rfl) (by assumption) (by rfl)) (by rfl) ?_; rintro _ _ ⟨rfl, rfl⟩))
    | (refine s1_alloc ?_; first | (refine sc_w (by rfl) W_allocA (by rfl) ?_; rintro _ _ ⟨_, rfl, rfl⟩) | (refine sc_w (by rfl) (W_alloc1 (by rfl)) (by rfl) ?_; rintro _ _ ⟨_, rfl, rfl⟩))
    | (refine s1_box ?_; first | (refine sc_w (by rfl) (W_boxA (by rfl)) (by rfl) ?_; rintro _ _ ⟨_, rfl, rfl⟩) | (refine sc_w (by rfl) (W_box1 (by rfl) (by rfl)) (by rfl) ?_; rintro _ _ ⟨_, rfl, rfl⟩))
    | (refine s1_conv ?_; first | refine sc_r (R_conv64 (by rfl) (by omega)) (by rfl) ?_)
    | (refine s1_slice ?_; first | refine sc_r (R_slice_h (by rfl) (by rfl) (by omega)) (by rfl) ?_ | refine sc_r (R_slice_l (by rfl) (by rfl) (by omega)) (by rfl) ?_ | refine sc_r (R_slice_lh (by rfl) (by rfl) (by rfl) (by omega)) (by rfl) ?_)
    | (refine s1_any ?_; first | refine sc_r (R_not (by rfl)) (by rfl) ?_ | refine sc_r (R_extract (by rfl) (by rfl)) (by rfl) ?_ | (refine sc_w (by rfl) (W_buildSlice1 (by rfl) (by rfl) (by rfl) (by rfl) (by rfl)) (by rfl) ?_; rintro _ _ ⟨_, rfl, rfl⟩) | (refine sc_w (by rfl) (W_buildSlice1s (by rfl) (by rfl)) (by rfl) ?_; rintro _ _ ⟨_, rfl, rfl⟩) | (refine sc_w (by rfl) (W_buildSlice (by rfl) (by rfl) (by rfl) (by rfl)) (by rfl) ?_; rintro _ _ ⟨_, rfl, rfl⟩) | refine sc_r (R_build (by rfl) (by rfl)) (by rfl) ?_ | refine sc_r (R_nilCheck (by rfl)) (by rfl) ?_ | refine sc_r (R_nilCheck_func (by rfl)) (by rfl) ?_ | (refine sc_w (by rfl) W_makeMap (by rfl) ?_; rintro _ _ ⟨_, rfl, rfl⟩) | refine sc_r (R_makeInterface (by rfl)) (by rfl) ?_ | refine sc_r (R_makeFunc (by rfl) (by rfl)) (by rfl) ?_)
    | refine swl_nil ?_
    | refine sx_next ?_
    | refine sw_seq ?_
    | refine sw_region ?_
    | refine sw_block ?_
    | refine swl_g_on (by rfl) (by rfl) ?_
    | refine swl_g_off (by rfl) (by rfl) (by rfl) (by rfl) ?_
    | refine swl_g_un (by rfl) (by rfl) (by rfl) ?_
    | refine swl_g_pos (by rfl) (by rfl) (by first | assumption | omega) ?_
    | refine swl_g_neg (by rfl) (by rfl) (by first | assumption | omega) ?_
    | refine swl_g_npos (by rfl) (by rfl) (by first | assumption | omega) ?_
    | refine swl_g_nneg (by rfl) (by rfl) (by first | assumption | omega) ?_
    | refine swl_g_dec (by rfl) (by rfl) (fun hp => ?_) (fun hp => ?_)
    | refine swl_g_ndec (by rfl) (by rfl) (fun hp => ?_) (fun hp => ?_)
    | refine swl_g_bool (by rfl) (by rfl) (fun hp => ?_) (fun hp => ?_)
    | refine sx_past_ret ?_
    | refine sx_past_exit ?_
    | refine sx_block_normal ?_
    | refine sx_block_ret ?_
    | refine sx_block_here ?_
    | refine sx_block_past (by rfl) ?_
    | refine sw_cond_true (by rfl) ?_
    | refine sw_cond_false (by rfl) ?_
    | refine sw_cond_pos (by rfl) (by first | assumption | omega) ?_
    | refine sw_cond_neg (by rfl) (by first | assumption | omega) ?_
    | refine sw_cond_npos (by rfl) (by first | assumption | omega) ?_
    | refine sw_cond_nneg (by rfl) (by first | assumption | omega) ?_
    | refine sw_cond_dec (by rfl) (fun hp => ?_) (fun hp => ?_)
    | refine sw_cond_not (by rfl) (fun hp => ?_) (fun hp => ?_)
    | refine sw_cond_bool (by rfl) (fun hp => ?_) (fun hp => ?_)
    | refine sw_ret ?_
    | refine sw_exit ?_
    | refine sw_skip ?_)
  refine sw_loop (γ := Nat) (fun g => n - g) (fun g => [(0, .slice p n cp), (1, .func (.func 36) #[] #[.pointer (some ⟨b, 0, none⟩)]), (6, .slice p n cp), (7, .int .i64 n), (8, .int .i64 g)]) (fun _ => L) (fun g => g ≤ n ∧ ∀ u ∈ l.take g, mayU u now = true) 0 ⟨by omega, by simp⟩
    (by exact subE.cons rfl (subE.cons rfl (subE.cons rfl (subE.cons rfl (subE.cons rfl subE.nil))))) (by (repeat (first | exact Ent.refl _ | exact Ent.nil | (apply Ent.pick; focus ((repeat (first | exact Rem.here | apply Rem.there)); done)) | apply Ent.drop))) ?_
  intro g ⟨hg, ht⟩
  by_cases hlt : g < n
  · obtain ⟨b1, o1, rfl⟩ := hl.ptr (by omega)
    have hl1 : g < l.length := by omega
    have he1 := uses_get hl1
    have hts := List.take_succ_eq_append_getElem hl1
    have hmem := List.getElem_mem hl1
    generalize hx : l[g] = x at *
    repeat' (first
    | refine swl_op ?_
    | (refine s1_move ?_; refine sc_r (R_move (by rfl)) (by rfl) ?_)
    | (refine s1_load ?_; first | refine sc_r (L_load' (by rfl) (by infer_instance) (by rfl)) (by rfl) ?_ | refine sc_r (L_load_all (by rfl) (by infer_instance) (by rfl)) (by rfl) ?_ | refine sc_r (L_load_el (by rfl) (by infer_instance) (by infer_instance) (by omega) (by first | assumption | rfl)) (by rfl) ?_ | refine sc_r (L_load_el1 (by rfl) (by infer_instance) (by omega) (by first | assumption | rfl)) (by rfl) ?_ | refine sc_r (L_load_elf (by rfl) (by infer_instance) (by omega) (by first | assumption | rfl) (by rfl) (by rfl)) (by rfl) ?_ | refine sc_r (L_load_agg (by rfl) (by infer_instance) (by assumption) (by assumption)) (by rfl) ?_ | refine sc_r (L_load (by rfl) (by infer_instance) (by assumption)) (by rfl) ?_)
    | (refine s1_fieldAddr ?_; refine sc_r (R_fieldAddr (by rfl)) (by rfl) ?_)
    | (refine s1_assign ?_; refine sc_r (R_assign (by rfl)) (by rfl) ?_)
    | (refine s1_pick ?_; first | refine sc_r (R_pick_t (by rfl) (by rfl)) (by rfl) ?_ | refine sc_r (R_pick_f (by rfl) (by rfl)) (by rfl) ?_)
    | (refine s1_bin ?_; first | refine sc_r (R_lss (by rfl) (by rfl)) (by rfl) ?_ | refine sc_r (R_add64 (by rfl) (by rfl) (by omega)) (by rfl) ?_ | refine sc_r (R_gtr (by rfl) (by rfl)) (by rfl) ?_ | refine sc_r (R_leq (by rfl) (by rfl)) (by rfl) ?_ | refine sc_r (R_geq (by rfl) (by rfl)) (by rfl) ?_ | refine sc_r (R_eql (by rfl) (by rfl)) (by rfl) ?_ | refine sc_r (R_neq (by rfl) (by rfl)) (by rfl) ?_ | refine sc_r (R_sub64 (by rfl) (by rfl) (by omega)) (by rfl) ?_ | refine sc_r (R_mul64 (by rfl) (by rfl) (by first | assumption | omega)) (by rfl) ?_)
    | (refine s1_call ?_; first | (refine sc_c (by rfl) (C_call (by rfl) (by infer_instance) (by rfl) (by rfl) (rank1 x now b hb)) (by rfl) ?_; rintro _ _ ⟨rfl, rfl⟩) | (refine sc_w (by rfl) (W_append1 (by rfl) (by rfl) (by focus ((repeat (first | exact Rem.here | apply Rem.there)); done)) (by infer_instance) (by rfl) (by rfl) (by first | assumption | omega)) (by rfl) ?_; rintro _ _ rfl) | refine sc_r (R_len (by rfl)) (by rfl) ?_ | refine sc_r (R_len_str (by rfl)) (by rfl) ?_)
    | (refine s1_indexAddr ?_; first | refine sc_r (R_indexAddr (by rfl) (by rfl) (by omega)) (by rfl) ?_ | refine sc_r (R_indexAddr_arr (by rfl) (by rfl) (by omega)) (by rfl) ?_)
    | (refine s1_store ?_; first | (refine sc_w (by rfl) (W_storeAll (by rfl) (by rfl) (by infer_instance) (by rfl) (by rfl) (by rfl)) (by rfl) ?_; rintro _ _ ⟨rfl, rfl⟩) | (refine sc_w (by rfl) (W_storeL (by rfl) (by rfl) (by infer_instance) (by rfl) (by rfl) (by rfl)) (by rfl) ?_; rintro _ _ ⟨rfl, rfl⟩) | (refine sc_w (by rfl) (W_store1 (by rfl) (by rfl) (by infer_instance) (by rfl) (by assumption) (by rfl)) (by rfl) ?_; rintro _ _ ⟨rfl, rfl⟩))
    | (refine s1_alloc ?_; first | (refine sc_w (by rfl) W_allocA (by rfl) ?_; rintro _ _ ⟨_, rfl, rfl⟩) | (refine sc_w (by rfl) (W_alloc1 (by rfl)) (by rfl) ?_; rintro _ _ ⟨_, rfl, rfl⟩))
    | (refine s1_box ?_; first | (refine sc_w (by rfl) (W_boxA (by rfl)) (by rfl) ?_; rintro _ _ ⟨_, rfl, rfl⟩) | (refine sc_w (by rfl) (W_box1 (by rfl) (by rfl)) (by rfl) ?_; rintro _ _ ⟨_, rfl, rfl⟩))
    | (refine s1_conv ?_; first | refine sc_r (R_conv64 (by rfl) (by omega)) (by rfl) ?_)
    | (refine s1_slice ?_; first | refine sc_r (R_slice_h (by rfl) (by rfl) (by omega)) (by rfl) ?_ | refine sc_r (R_slice_l (by rfl) (by rfl) (by omega)) (by rfl) ?_ | refine sc_r (R_slice_lh (by rfl) (by rfl) (by rfl) (by omega)) (by rfl) ?_)
    | (refine s1_any ?_; first | refine sc_r (R_not (by rfl)) (by rfl) ?_ | refine sc_r (R_extract (by rfl) (by rfl)) (by rfl) ?_ | (refine sc_w (by rfl) (W_buildSlice1 (by rfl) (by rfl) (by rfl) (by rfl) (by rfl)) (by rfl) ?_; rintro _ _ ⟨_, rfl, rfl⟩) | (refine sc_w (by rfl) (W_buildSlice1s (by rfl) (by rfl)) (by rfl) ?_; rintro _ _ ⟨_, rfl, rfl⟩) | (refine sc_w (by rfl) (W_buildSlice (by rfl) (by rfl) (by rfl) (by rfl)) (by rfl) ?_; rintro _ _ ⟨_, rfl, rfl⟩) | refine sc_r (R_build (by rfl) (by rfl)) (by rfl) ?_ | refine sc_r (R_nilCheck (by rfl)) (by rfl) ?_ | refine sc_r (R_nilCheck_func (by rfl)) (by rfl) ?_ | (refine sc_w (by rfl) W_makeMap (by rfl) ?_; rintro _ _ ⟨_, rfl, rfl⟩) | refine sc_r (R_makeInterface (by rfl)) (by rfl) ?_ | refine sc_r (R_makeFunc (by rfl) (by rfl)) (by rfl) ?_)
    | refine swl_nil ?_
    | refine sx_next ?_
    | refine sw_seq ?_
    | refine sw_region ?_
    | refine sw_block ?_
    | refine swl_g_on (by rfl) (by rfl) ?_
    | refine swl_g_off (by rfl) (by rfl) (by rfl) (by rfl) ?_
    | refine swl_g_un (by rfl) (by rfl) (by rfl) ?_
    | refine swl_g_pos (by rfl) (by rfl) (by first | assumption | omega) ?_
    | refine swl_g_neg (by rfl) (by rfl) (by first | assumption | omega) ?_
    | refine swl_g_npos (by rfl) (by rfl) (by first | assumption | omega) ?_
    | refine swl_g_nneg (by rfl) (by rfl) (by first | assumption | omega) ?_
    | refine swl_g_dec (by rfl) (by rfl) (fun hp => ?_) (fun hp => ?_)
    | refine swl_g_ndec (by rfl) (by rfl) (fun hp => ?_) (fun hp => ?_)
    | refine swl_g_bool (by rfl) (by rfl) (fun hp => ?_) (fun hp => ?_)
    | refine sx_past_ret ?_
    | refine sx_past_exit ?_
    | refine sx_block_normal ?_
    | refine sx_block_ret ?_
    | refine sx_block_here ?_
    | refine sx_block_past (by rfl) ?_
    | refine sw_cond_true (by rfl) ?_
    | refine sw_cond_false (by rfl) ?_
    | refine sw_cond_pos (by rfl) (by first | assumption | omega) ?_
    | refine sw_cond_neg (by rfl) (by first | assumption | omega) ?_
    | refine sw_cond_npos (by rfl) (by first | assumption | omega) ?_
    | refine sw_cond_nneg (by rfl) (by first | assumption | omega) ?_
    | refine sw_cond_dec (by rfl) (fun hp => ?_) (fun hp => ?_)
    | refine sw_cond_not (by rfl) (fun hp => ?_) (fun hp => ?_)
    | refine sw_cond_bool (by rfl) (fun hp => ?_) (fun hp => ?_)
    | refine sw_ret ?_
    | refine sw_exit ?_
    | refine sw_skip ?_)
    · refine sx_ret_of (res1 rfl (ResOne.tmp rfl)) L ⟨_, rfl, ?_, rfl⟩ (by (repeat (first | exact Ent.refl _ | exact Ent.nil | (apply Ent.pick; focus ((repeat (first | exact Rem.here | apply Rem.there)); done)) | apply Ent.drop)))
      exact ⟨fun _ => ⟨x, hmem, by simpa [mayU] using hp⟩, fun _ => by omega⟩
    · refine sx_back (g + 1) (by omega) ?_ (subE.cons rfl (subE.cons rfl (subE.cons rfl (subE.cons rfl (subE.cons rfl subE.nil))))) (by (repeat (first | exact Ent.refl _ | exact Ent.nil | (apply Ent.pick; focus ((repeat (first | exact Rem.here | apply Rem.there)); done)) | apply Ent.drop)))
      refine ⟨by omega, fun u hu => ?_⟩
      rw [hts] at hu
      rcases List.mem_append.1 hu with hu | hu
      · exact ht u hu
      · rw [List.mem_singleton.1 hu]; simpa [mayU] using hp
  · repeat' (first
    | refine swl_op ?_
    | (refine s1_move ?_; refine sc_r (R_move (by rfl)) (by rfl) ?_)
    | (refine s1_load ?_; first | refine sc_r (L_load' (by rfl) (by infer_instance) (by rfl)) (by rfl) ?_ | refine sc_r (L_load_all (by rfl) (by infer_instance) (by rfl)) (by rfl) ?_ | refine sc_r (L_load_el (by rfl) (by infer_instance) (by infer_instance) (by omega) (by first | assumption | rfl)) (by rfl) ?_ | refine sc_r (L_load_el1 (by rfl) (by infer_instance) (by omega) (by first | assumption | rfl)) (by rfl) ?_ | refine sc_r (L_load_elf (by rfl) (by infer_instance) (by omega) (by first | assumption | rfl) (by rfl) (by rfl)) (by rfl) ?_ | refine sc_r (L_load_agg (by rfl) (by infer_instance) (by assumption) (by assumption)) (by rfl) ?_ | refine sc_r (L_load (by rfl) (by infer_instance) (by assumption)) (by rfl) ?_)
    | (refine s1_fieldAddr ?_; refine sc_r (R_fieldAddr (by rfl)) (by rfl) ?_)
    | (refine s1_assign ?_; refine sc_r (R_assign (by rfl)) (by rfl) ?_)
    | (refine s1_pick ?_; first | refine sc_r (R_pick_t (by rfl) (by rfl)) (by rfl) ?_ | refine sc_r (R_pick_f (by rfl) (by rfl)) (by rfl) ?_)
    | (refine s1_bin ?_; first | refine sc_r (R_lss (by rfl) (by rfl)) (by rfl) ?_ | refine sc_r (R_add64 (by rfl) (by rfl) (by omega)) (by rfl) ?_ | refine sc_r (R_gtr (by rfl) (by rfl)) (by rfl) ?_ | refine sc_r (R_leq (by rfl) (by rfl)) (by rfl) ?_ | refine sc_r (R_geq (by rfl) (by rfl)) (by rfl) ?_ | refine sc_r (R_eql (by rfl) (by rfl)) (by rfl) ?_ | refine sc_r (R_neq (by rfl) (by rfl)) (by rfl) ?_ | refine sc_r (R_sub64 (by rfl) (by rfl) (by omega)) (by rfl) ?_ | refine sc_r (R_mul64 (by rfl) (by rfl) (by first | assumption | omega)) (by rfl) ?_)
    | (refine s1_call ?_; first | (refine sc_w (by rfl) (W_append1 (by rfl) (by rfl) (by focus ((repeat (first | exact Rem.here | apply Rem.there)); done)) (by infer_instance) (by rfl) (by rfl) (by first | assumption | omega)) (by rfl) ?_; rintro _ _ rfl) | refine sc_r (R_len (by rfl)) (by rfl) ?_ | refine sc_r (R_len_str (by rfl)) (by rfl) ?_)
    | (refine s1_indexAddr ?_; first | refine sc_r (R_indexAddr (by rfl) (by rfl) (by omega)) (by rfl) ?_ | refine sc_r (R_indexAddr_arr (by rfl) (by rfl) (by omega)) (by rfl) ?_)
    | (refine s1_store ?_; first | (refine sc_w (by rfl) (W_storeAll (by rfl) (by rfl) (by infer_instance) (by rfl) (by rfl) (by rfl)) (by rfl) ?_; rintro _ _ ⟨rfl, rfl⟩) | (refine sc_w (by rfl) (W_storeL (by rfl) (by rfl) (by infer_instance) (by rfl) (by rfl) (by rfl)) (by rfl) ?_; rintro _ _ ⟨rfl, rfl⟩) | (refine sc_w (by rfl) (W_store1 (by rfl) (by rfl) (by infer_instance) (by rfl) (by assumption) (by rfl)) (by rfl) ?_; rintro _ _ ⟨rfl, rfl⟩))
    | (refine s1_alloc ?_; first | (refine sc_w (by rfl) W_allocA (by rfl) ?_; rintro _ _ ⟨_, rfl, rfl⟩) | (refine sc_w (by rfl) (W_alloc1 (by rfl)) (by rfl) ?_; rintro _ _ ⟨_, rfl, rfl⟩))
    | (refine s1_box ?_; first | (refine sc_w (by rfl) (W_boxA (by rfl)) (by rfl) ?_; rintro _ _ ⟨_, rfl, rfl⟩) | (refine sc_w (by rfl) (W_box1 (by rfl) (by rfl)) (by rfl) ?_; rintro _ _ ⟨_, rfl, rfl⟩))
    | (refine s1_conv ?_; first | refine sc_r (R_conv64 (by rfl) (by omega)) (by rfl) ?_)
    | (refine s1_slice ?_; first | refine sc_r (R_slice_h (by rfl) (by rfl) (by omega)) (by rfl) ?_ | refine sc_r (R_slice_l (by rfl) (by rfl) (by omega)) (by rfl) ?_ | refine sc_r (R_slice_lh (by rfl) (by rfl) (by rfl) (by omega)) (by rfl) ?_)
    | (refine s1_any ?_; first | refine sc_r (R_not (by rfl)) (by rfl) ?_ | refine sc_r (R_extract (by rfl) (by rfl)) (by rfl) ?_ | (refine sc_w (by rfl) (W_buildSlice1 (by rfl) (by rfl) (by rfl) (by rfl) (by rfl)) (by rfl) ?_; rintro _ _ ⟨_, rfl, rfl⟩) | (refine sc_w (by rfl) (W_buildSlice1s (by rfl) (by rfl)) (by rfl) ?_; rintro _ _ ⟨_, rfl, rfl⟩) | (refine sc_w (by rfl) (W_buildSlice (by rfl) (by rfl) (by rfl) (by rfl)) (by rfl) ?_; rintro _ _ ⟨_, rfl, rfl⟩) | refine sc_r (R_build (by rfl) (by rfl)) (by rfl) ?_ | refine sc_r (R_nilCheck (by rfl)) (by rfl) ?_ | refine sc_r (R_nilCheck_func (by rfl)) (by rfl) ?_ | (refine sc_w (by rfl) W_makeMap (by rfl) ?_; rintro _ _ ⟨_, rfl, rfl⟩) | refine sc_r (R_makeInterface (by rfl)) (by rfl) ?_ | refine sc_r (R_makeFunc (by rfl) (by rfl)) (by rfl) ?_)
    | refine swl_nil ?_
    | refine sx_next ?_
    | refine sw_seq ?_
    | refine sw_region ?_
    | refine sw_block ?_
    | refine swl_g_on (by rfl) (by rfl) ?_
    | refine swl_g_off (by rfl) (by rfl) (by rfl) (by rfl) ?_
    | refine swl_g_un (by rfl) (by rfl) (by rfl) ?_
    | refine swl_g_pos (by rfl) (by rfl) (by first | assumption | omega) ?_
    | refine swl_g_neg (by rfl) (by rfl) (by first | assumption | omega) ?_
    | refine swl_g_npos (by rfl) (by rfl) (by first | assumption | omega) ?_
    | refine swl_g_nneg (by rfl) (by rfl) (by first | assumption | omega) ?_
    | refine swl_g_dec (by rfl) (by rfl) (fun hp => ?_) (fun hp => ?_)
    | refine swl_g_ndec (by rfl) (by rfl) (fun hp => ?_) (fun hp => ?_)
    | refine swl_g_bool (by rfl) (by rfl) (fun hp => ?_) (fun hp => ?_)
    | refine sx_past_ret ?_
    | refine sx_past_exit ?_
    | refine sx_block_normal ?_
    | refine sx_block_ret ?_
    | refine sx_block_here ?_
    | refine sx_block_past (by rfl) ?_
    | refine sw_cond_true (by rfl) ?_
    | refine sw_cond_false (by rfl) ?_
    | refine sw_cond_pos (by rfl) (by first | assumption | omega) ?_
    | refine sw_cond_neg (by rfl) (by first | assumption | omega) ?_
    | refine sw_cond_npos (by rfl) (by first | assumption | omega) ?_
    | refine sw_cond_nneg (by rfl) (by first | assumption | omega) ?_
    | refine sw_cond_dec (by rfl) (fun hp => ?_) (fun hp => ?_)
    | refine sw_cond_not (by rfl) (fun hp => ?_) (fun hp => ?_)
    | refine sw_cond_bool (by rfl) (fun hp => ?_) (fun hp => ?_)
    | refine sw_ret ?_
    | refine sw_exit ?_
    | refine sw_skip ?_)
    refine sx_ret_of (res1 rfl (ResOne.tmp rfl)) L ⟨_, rfl, ?_, rfl⟩ (by (repeat (first | exact Ent.refl _ | exact Ent.nil | (apply Ent.pick; focus ((repeat (first | exact Rem.here | apply Rem.there)); done)) | apply Ent.drop)))
    rw [List.take_of_length_le (by omega)] at ht
    refine ⟨fun h => by omega, fun ⟨u, hu, hf⟩ => ?_⟩
    rw [ht u hu] at hf; cases hf

theorem containsFunc (l : List Use) (now : Int) (b : Nat) {T : TypeId} {L : List HP} {p : Option Addr} {n cp : Nat} (hl : SlC L p 2 n cp (l.map Use.cells)) (hb : ReadC L b (.cells #[.int .i64 now] T)) :
    Tr Try.prog 37 [.slice p n cp, .func (.func 36) #[] #[.pointer (some ⟨b, 0, none⟩)]].toArray L (fun v L' => v = .bool (!l.all fun u => mayU u now) ∧ L = L') := by
  refine tr_enter Try.func37 rfl Try.ntmps37 rfl fun w0 => ?_
  repeat' (first
    | refine swl_op ?_
    | (refine s1_move ?_; refine sc_r (R_move (by rfl)) (by rfl) ?_)
    | (refine s1_load ?_; first | refine sc_r (L_load' (by rfl) (by infer_instance) (by rfl)) (by rfl) ?_ | refine sc_r (L_load_all (by rfl) (by infer_instance) (by rfl)) (by rfl) ?_ | refine sc_r (L_load_el (by rfl) (by infer_instance) (by infer_instance) (by omega) (by first | assumption | rfl)) (by rfl) ?_ | refine sc_r (L_load_el1 (by rfl) (by infer_instance) (by omega) (by first | assumption | rfl)) (by rfl) ?_ | refine sc_r (L_load_elf (by rfl) (by infer_instance) (by omega) (by first | assumption | rfl) (by rfl) (by rfl)) (by rfl) ?_ | refine sc_r (L_load_agg (by rfl) (by infer_instance) (by assumption) (by assumption)) (by rfl) ?_ | refine sc_r (L_load (by rfl) (by infer_instance) (by assumption)) (by rfl) ?_)
    | (refine s1_fieldAddr ?_; refine sc_r (R_fieldAddr (by rfl)) (by rfl) ?_)
    | (refine s1_assign ?_; refine sc_r (R_assign (by rfl)) (by rfl) ?_)
    | (refine s1_pick ?_; first | refine sc_r (R_pick_t (by rfl) (by rfl)) (by rfl) ?_ | refine sc_r (R_pick_f (by rfl) (by rfl)) (by rfl) ?_)
    | (refine s1_bin ?_; first | refine sc_r (R_lss (by rfl) (by rfl)) (by rfl) ?_ | refine sc_r (R_add64 (by rfl) (by rfl) (by omega)) (by rfl) ?_ | refine sc_r (R_gtr (by rfl) (by rfl)) (by rfl) ?_ | refine sc_r (R_leq (by rfl) (by rfl)) (by rfl) ?_ | refine sc_r (R_geq (by rfl) (by rfl)) (by rfl) ?_ | refine sc_r (R_eql (by rfl) (by rfl)) (by rfl) ?_ | refine sc_r (R_neq (by rfl) (by rfl)) (by rfl) ?_ | refine sc_r (R_sub64 (by rfl) (by rfl) (by omega)) (by rfl) ?_ | refine sc_r (R_mul64 (by rfl) (by rfl) (by first | assumption | omega)) (by rfl) ?_)
    | (refine s1_call ?_; first | (refine sc_c (by rfl) (C_call (by rfl) (by infer_instance) (by rfl) (by rfl) (indexFunc l now b hl hb)) (by rfl) ?_; rintro _ _ ⟨z, rfl, hz, rfl⟩) | (refine sc_w (by rfl) (W_append1 (by rfl) (by rfl) (by focus ((repeat (first | exact Rem.here | apply Rem.there)); done)) (by infer_instance) (by rfl) (by rfl) (by first | assumption | omega)) (by rfl) ?_; rintro _ _ rfl) | refine sc_r (R_len (by rfl)) (by rfl) ?_ | refine sc_r (R_len_str (by rfl)) (by rfl) ?_)
    | (refine s1_indexAddr ?_; first | refine sc_r (R_indexAddr (by rfl) (by rfl) (by omega)) (by rfl) ?_ | refine sc_r (R_indexAddr_arr (by rfl) (by rfl) (by omega)) (by rfl) ?_)
    | (refine s1_store ?_; first | (refine sc_w (by rfl) (W_storeAll (by rfl) (by rfl) (by infer_instance) (by rfl) (by rfl) (by rfl)) (by rfl) ?_; rintro _ _ ⟨rfl, rfl⟩) | (refine sc_w (by rfl) (W_storeL (by rfl) (by rfl) (by infer_instance) (by rfl) (by rfl) (by rfl)) (by rfl) ?_; rintro _ _ ⟨rfl, rfl⟩) | (refine sc_w (by rfl) (W_store1 (by rfl) (by rfl) (by infer_instance) (by rfl) (by assumption) (by rfl)) (by rfl) ?_; rintro _ _ ⟨rfl, rfl⟩))
    | (refine s1_alloc ?_; first | (refine sc_w (by rfl) W_allocA (by rfl) ?_; rintro _ _ ⟨_, rfl, rfl⟩) | (refine sc_w (by rfl) (W_alloc1 (by rfl)) (by rfl) ?_; rintro _ _ ⟨_, rfl, rfl⟩))
    | (refine s1_box ?_; first | (refine sc_w (by rfl) (W_boxA (by rfl)) (by rfl) ?_; rintro _ _ ⟨_, rfl, rfl⟩) | (refine sc_w (by rfl) (W_box1 (by rfl) (by rfl)) (by rfl) ?_; rintro _ _ ⟨_, rfl, rfl⟩))
    | (refine s1_conv ?_; first | refine sc_r (R_conv64 (by rfl) (by omega)) (by rfl) ?_)
    | (refine s1_slice ?_; first | refine sc_r (R_slice_h (by rfl) (by rfl) (by omega)) (by rfl) ?_ | refine sc_r (R_slice_l (by rfl) (by rfl) (by omega)) (by rfl) ?_ | refine sc_r (R_slice_lh (by rfl) (by rfl) (by rfl) (by omega)) (by rfl) ?_)
    | (refine s1_any ?_; first | refine sc_r (R_not (by rfl)) (by rfl) ?_ | refine sc_r (R_extract (by rfl) (by rfl)) (by rfl) ?_ | (refine sc_w (by rfl) (W_buildSlice1 (by rfl) (by rfl) (by rfl) (by rfl) (by rfl)) (by rfl) ?_; rintro _ _ ⟨_, rfl, rfl⟩) | (refine sc_w (by rfl) (W_buildSlice1s (by rfl) (by rfl)) (by rfl) ?_; rintro _ _ ⟨_, rfl, rfl⟩) | (refine sc_w (by rfl) (W_buildSlice (by rfl) (by rfl) (by rfl) (by rfl)) (by rfl) ?_; rintro _ _ ⟨_, rfl, rfl⟩) | refine sc_r (R_build (by rfl) (by rfl)) (by rfl) ?_ | refine sc_r (R_nilCheck (by rfl)) (by rfl) ?_ | refine sc_r (R_nilCheck_func (by rfl)) (by rfl) ?_ | (refine sc_w (by rfl) W_makeMap (by rfl) ?_; rintro _ _ ⟨_, rfl, rfl⟩) | refine sc_r (R_makeInterface (by rfl)) (by rfl) ?_ | refine sc_r (R_makeFunc (by rfl) (by rfl)) (by rfl) ?_)
    | refine swl_nil ?_
    | refine sx_next ?_
    | refine sw_seq ?_
    | refine sw_region ?_
    | refine sw_block ?_
    | refine swl_g_on (by rfl) (by rfl) ?_
    | refine swl_g_off (by rfl) (by rfl) (by rfl) (by rfl) ?_
    | refine swl_g_un (by rfl) (by rfl) (by rfl) ?_
    | refine swl_g_pos (by rfl) (by rfl) (by first | assumption | omega) ?_
    | refine swl_g_neg (by rfl) (by rfl) (by first | assumption | omega) ?_
    | refine swl_g_npos (by rfl) (by rfl) (by first | assumption | omega) ?_
    | refine swl_g_nneg (by rfl) (by rfl) (by first | assumption | omega) ?_
    | refine swl_g_dec (by rfl) (by rfl) (fun hp => ?_) (fun hp => ?_)
    | refine swl_g_ndec (by rfl) (by rfl) (fun hp => ?_) (fun hp => ?_)
    | refine swl_g_bool (by rfl) (by rfl) (fun hp => ?_) (fun hp => ?_)
    | refine sx_past_ret ?_
    | refine sx_past_exit ?_
    | refine sx_block_normal ?_
    | refine sx_block_ret ?_
    | refine sx_block_here ?_
    | refine sx_block_past (by rfl) ?_
    | refine sw_cond_true (by rfl) ?_
    | refine sw_cond_false (by rfl) ?_
    | refine sw_cond_pos (by rfl) (by first | assumption | omega) ?_
    | refine sw_cond_neg (by rfl) (by first | assumption | omega) ?_
    | refine sw_cond_npos (by rfl) (by first | assumption | omega) ?_
    | refine sw_cond_nneg (by rfl) (by first | assumption | omega) ?_
    | refine sw_cond_dec (by rfl) (fun hp => ?_) (fun hp => ?_)
    | refine sw_cond_not (by rfl) (fun hp => ?_) (fun hp => ?_)
    | refine sw_cond_bool (by rfl) (fun hp => ?_) (fun hp => ?_)
    | refine sw_ret ?_
    | refine sw_exit ?_
    | refine sw_skip ?_)
  refine sx_ret_of (res1 rfl (ResOne.tmp rfl)) L ⟨?_, rfl⟩ (by (repeat (first | exact Ent.refl _ | exact Ent.nil | (apply Ent.pick; focus ((repeat (first | exact Rem.here | apply Rem.there)); done)) | apply Ent.drop)))
  congr 1
  rw [Bool.eq_iff_iff]
  simp [hz]

theorem ref18_has (s : List Int) (z : Int) {L : List HP} {p : Option Addr} {n cp : Nat} (hl : SlC L p 1 n cp (s.map fun z => #[Value.int .i64 z])) :
    Tr Try.prog 42 [.slice p n cp, .int .i64 z].toArray L (fun v L' => v = .bool (s.contains z) ∧ L = L') := by
  have hlen : s.length = n := by simpa using hl.len
  have hbd := hl.bd
  refine tr_enter Try.func42 rfl Try.ntmps42 rfl fun w0 => ?_
  repeat' (first
    | refine swl_op ?_
    | (refine s1_move ?_; refine sc_r (R_move (by rfl)) (by rfl) ?_)
    | (refine s1_load ?_; first | refine sc_r (L_load' (by rfl) (by infer_instance) (by rfl)) (by rfl) ?_ | refine sc_r (L_load_all (by rfl) (by infer_instance) (by rfl)) (by rfl) ?_ | refine sc_r (L_load_el (by rfl) (by infer_instance) (by infer_instance) (by omega) (by first | assumption | rfl)) (by rfl) ?_ | refine sc_r (L_load_el1 (by rfl) (by infer_instance) (by omega) (by first | assumption | rfl)) (by rfl) ?_ | refine sc_r (L_load_elf (by rfl) (by infer_instance) (by omega) (by first | assumption | rfl) (by rfl) (by rfl)) (by rfl) ?_ | refine sc_r (L_load_agg (by rfl) (by infer_instance) (by assumption) (by assumption)) (by rfl) ?_ | refine sc_r (L_load (by rfl) (by infer_instance) (by assumption)) (by rfl) ?_)
    | (refine s1_fieldAddr ?_; refine sc_r (R_fieldAddr (by rfl)) (by rfl) ?_)
    | (refine s1_assign ?_; refine sc_r (R_assign (by rfl)) (by rfl) ?_)
    | (refine s1_pick ?_; first | refine sc_r (R_pick_t (by rfl) (by rfl)) (by rfl) ?_ | refine sc_r (R_pick_f (by rfl) (by rfl)) (by rfl) ?_)
    | (refine s1_bin ?_; first | refine sc_r (R_lss (by rfl) (by rfl)) (by rfl) ?_ | refine sc_r (R_add64 (by rfl) (by rfl) (by omega)) (by rfl) ?_ | refine sc_r (R_gtr (by rfl) (by rfl)) (by rfl) ?_ | refine sc_r (R_leq (by rfl) (by rfl)) (by rfl) ?_ | refine sc_r (R_geq (by rfl) (by rfl)) (by rfl) ?_ | refine sc_r (R_eql (by rfl) (by rfl)) (by rfl) ?_ | refine sc_r (R_neq (by rfl) (by rfl)) (by rfl) ?_ | refine sc_r (R_sub64 (by rfl) (by rfl) (by omega)) (by rfl) ?_ | refine sc_r (R_mul64 (by rfl) (by rfl) (by first | assumption | omega)) (by rfl) ?_)
    | (refine s1_call ?_; first | (refine sc_w (by rfl) (W_append1 (by rfl) (by rfl) (by focus ((repeat (first | exact Rem.here | apply Rem.there)); done)) (by infer_instance) (by rfl) (by rfl) (by first | assumption | omega)) (by rfl) ?_; rintro _ _ rfl) | refine sc_r (R_len (by rfl)) (by rfl) ?_ | refine sc_r (R_len_str (by rfl)) (by rfl) ?_)
    | (refine s1_indexAddr ?_; first | refine sc_r (R_indexAddr (by rfl) (by rfl) (by omega)) (by rfl) ?_ | refine sc_r (R_indexAddr_arr (by rfl) (by rfl) (by omega)) (by rfl) ?_)
    | (refine s1_store ?_; first | (refine sc_w (by rfl) (W_storeAll (by rfl) (by rfl) (by infer_instance) (by rfl) (by rfl) (by rfl)) (by rfl) ?_; rintro _ _ ⟨rfl, rfl⟩) | (refine sc_w (by rfl) (W_storeL (by rfl) (by rfl) (by infer_instance) (by rfl) (by rfl) (by rfl)) (by rfl) ?_; rintro _ _ ⟨rfl, rfl⟩) | (refine sc_w (by rfl) (W_store1 (by rfl) (by rfl) (by infer_instance) (by rfl) (by assumption) (by rfl)) (by rfl) ?_; rintro _ _ ⟨rfl, rfl⟩))
    | (refine s1_alloc ?_; first | (refine sc_w (by rfl) W_allocA (by rfl) ?_; rintro _ _ ⟨_, rfl, rfl⟩) | (refine sc_w (by rfl) (W_alloc1 (by rfl)) (by rfl) ?_; rintro _ _ ⟨_, rfl, rfl⟩))
    | (refine s1_box ?_; first | (refine sc_w (by rfl) (W_boxA (by rfl)) (by rfl) ?_; rintro _ _ ⟨_, rfl, rfl⟩) | (refine sc_w (by rfl) (W_box1 (by rfl) (by rfl)) (by rfl) ?_; rintro _ _ ⟨_, rfl, rfl⟩))
    | (refine s1_conv ?_; first | refine sc_r (R_conv64 (by rfl) (by omega)) (by rfl) ?_)
    | (refine s1_slice ?_; first | refine sc_r (R_slice_h (by rfl) (by rfl) (by omega)) (by rfl) ?_ | refine sc_r (R_slice_l (by rfl) (by rfl) (by omega)) (by rfl) ?_ | refine sc_r (R_slice_lh (by rfl) (by rfl) (by rfl) (by omega)) (by rfl) ?_)
    | (refine s1_any ?_; first | refine sc_r (R_not (by rfl)) (by rfl) ?_ | refine sc_r (R_extract (by rfl) (by rfl)) (by rfl) ?_ | (refine sc_w (by rfl) (W_buildSlice1 (by rfl) (by rfl) (by rfl) (by rfl) (by rfl)) (by rfl) ?_; rintro _ _ ⟨_, rfl, rfl⟩) | (refine sc_w (by rfl) (W_buildSlice1s (by rfl) (by rfl)) (by rfl) ?_; rintro _ _ ⟨_, rfl, rfl⟩) | (refine sc_w (by rfl) (W_buildSlice (by rfl) (by rfl) (by rfl) (by rfl)) (by rfl) ?_; rintro _ _ ⟨_, rfl, rfl⟩) | refine sc_r (R_build (by rfl) (by rfl)) (by rfl) ?_ | refine sc_r (R_nilCheck (by rfl)) (by rfl) ?_ | refine sc_r (R_nilCheck_func (by rfl)) (by rfl) ?_ | (refine sc_w (by rfl) W_makeMap (by rfl) ?_; rintro _ _ ⟨_, rfl, rfl⟩) | refine sc_r (R_makeInterface (by rfl)) (by rfl) ?_ | refine sc_r (R_makeFunc (by rfl) (by rfl)) (by rfl) ?_)
    | refine swl_nil ?_
    | refine sx_next ?_
    | refine sw_seq ?_
    | refine sw_region ?_
    | refine sw_block ?_
    | refine swl_g_on (by rfl) (by rfl) ?_
    | refine swl_g_off (by rfl) (by rfl) (by rfl) (by rfl) ?_
    | refine swl_g_un (by rfl) (by rfl) (by rfl) ?_
    | refine swl_g_pos (by rfl) (by rfl) (by first | assumption | omega) ?_
    | refine swl_g_neg (by rfl) (by rfl) (by first | assumption | omega) ?_
    | refine swl_g_npos (by rfl) (by rfl) (by first | assumption | omega) ?_
    | refine swl_g_nneg (by rfl) (by rfl) (by first | assumption | omega) ?_
    | refine swl_g_dec (by rfl) (by rfl) (fun hp => ?_) (fun hp => ?_)
    | refine swl_g_ndec (by rfl) (by rfl) (fun hp => ?_) (fun hp => ?_)
    | refine swl_g_bool (by rfl) (by rfl) (fun hp => ?_) (fun hp => ?_)
    | refine sx_past_ret ?_
    | refine sx_past_exit ?_
    | refine sx_block_normal ?_
    | refine sx_block_ret ?_
    | refine sx_block_here ?_
    | refine sx_block_past (by rfl) ?_
    | refine sw_cond_true (by rfl) ?_
    | refine sw_cond_false (by rfl) ?_
    | refine sw_cond_pos (by rfl) (by first | assumption | omega) ?_
    | refine sw_cond_neg (by rfl) (by first | assumption | omega) ?_
    | refine sw_cond_npos (by rfl) (by first | assumption | omega) ?_
    | refine sw_cond_nneg (by rfl) (by first | assumption | omega) ?_
    | refine sw_cond_dec (by rfl) (fun hp => ?_) (fun hp => ?_)
    | refine sw_cond_not (by rfl) (fun hp => ?_) (fun hp => ?_)
    | refine sw_cond_bool (by rfl) (fun hp => ?_) (fun hp => ?_)
    | refine sw_ret ?_
    | refine sw_exit ?_
    | refine sw_skip ?_)
  refine sw_loop (γ := Nat) (fun g => n - g) (fun g => [(0, .slice p n cp), (1, .int .i64 z), (5, .int .i64 g)]) (fun _ => L) (fun g => g ≤ n ∧ z ∉ s.take g) 0 ⟨by omega, by simp⟩
    (by exact subE.cons rfl (subE.cons rfl (subE.cons rfl subE.nil))) (by (repeat (first | exact Ent.refl _ | exact Ent.nil | (apply Ent.pick; focus ((repeat (first | exact Rem.here | apply Rem.there)); done)) | apply Ent.drop))) ?_
  intro g ⟨hg, ht⟩
  by_cases hlt : g < n
  · obtain ⟨b1, o1, rfl⟩ := hl.ptr (by omega)
    have hl1 : g < s.length := by omega
    have he1 := ints_get hl1
    have hts := List.take_succ_eq_append_getElem hl1
    have hmem := List.getElem_mem hl1
    generalize hx : s[g] = x at *
    repeat' (first
    | refine swl_op ?_
    | (refine s1_move ?_; refine sc_r (R_move (by rfl)) (by rfl) ?_)
    | (refine s1_load ?_; first | refine sc_r (L_load' (by rfl) (by infer_instance) (by rfl)) (by rfl) ?_ | refine sc_r (L_load_all (by rfl) (by infer_instance) (by rfl)) (by rfl) ?_ | refine sc_r (L_load_el (by rfl) (by infer_instance) (by infer_instance) (by omega) (by first | assumption | rfl)) (by rfl) ?_ | refine sc_r (L_load_el1 (by rfl) (by infer_instance) (by omega) (by first | assumption | rfl)) (by rfl) ?_ | refine sc_r (L_load_elf (by rfl) (by infer_instance) (by omega) (by first | assumption | rfl) (by rfl) (by rfl)) (by rfl) ?_ | refine sc_r (L_load_agg (by rfl) (by infer_instance) (by assumption) (by assumption)) (by rfl) ?_ | refine sc_r (L_load (by rfl) (by infer_instance) (by assumption)) (by rfl) ?_)
    | (refine s1_fieldAddr ?_; refine sc_r (R_fieldAddr (by rfl)) (by rfl) ?_)
    | (refine s1_assign ?_; refine sc_r (R_assign (by rfl)) (by rfl) ?_)
    | (refine s1_pick ?_; first | refine sc_r (R_pick_t (by rfl) (by rfl)) (by rfl) ?_ | refine sc_r (R_pick_f (by rfl) (by rfl)) (by rfl) ?_)
    | (refine s1_bin ?_; first | refine sc_r (R_lss (by rfl) (by rfl)) (by rfl) ?_ | refine sc_r (R_add64 (by rfl) (by rfl) (by omega)) (by rfl) ?_ | refine sc_r (R_gtr (by rfl) (by rfl)) (by rfl) ?_ | refine sc_r (R_leq (by rfl) (by rfl)) (by rfl) ?_ | refine sc_r (R_geq (by rfl) (by rfl)) (by rfl) ?_ | refine sc_r (R_eql (by rfl) (by rfl)) (by rfl) ?_ | refine sc_r (R_neq (by rfl) (by rfl)) (by rfl) ?_ | refine sc_r (R_sub64 (by rfl) (by rfl) (by omega)) (by rfl) ?_ | refine sc_r (R_mul64 (by rfl) (by rfl) (by first | assumption | omega)) (by rfl) ?_)
    | (refine s1_call ?_; first | (refine sc_w (by rfl) (W_append1 (by rfl) (by rfl) (by focus ((repeat (first | exact Rem.here | apply Rem.there)); done)) (by infer_instance) (by rfl) (by rfl) (by first | assumption | omega)) (by rfl) ?_; rintro _ _ rfl) | refine sc_r (R_len (by rfl)) (by rfl) ?_ | refine sc_r (R_len_str (by rfl)) (by rfl) ?_)
    | (refine s1_indexAddr ?_; first | refine sc_r (R_indexAddr (by rfl) (by rfl) (by omega)) (by rfl) ?_ | refine sc_r (R_indexAddr_arr (by rfl) (by rfl) (by omega)) (by rfl) ?_)
    | (refine s1_store ?_; first | (refine sc_w (by rfl) (W_storeAll (by rfl) (by rfl) (by infer_instance) (by rfl) (by rfl) (by rfl)) (by rfl) ?_; rintro _ _ ⟨rfl, rfl⟩) | (refine sc_w (by rfl) (W_storeL (by rfl) (by rfl) (by infer_instance) (by rfl) (by rfl) (by rfl)) (by rfl) ?_; rintro _ _ ⟨rfl, rfl⟩) | (refine sc_w (by rfl) (W_store1 (by rfl) (by rfl) (by infer_instance) (by rfl) (by assumption) (by rfl)) (by rfl) ?_; rintro _ _ ⟨rfl, rfl⟩))
    | (refine s1_alloc ?_; first | (refine sc_w (by rfl) W_allocA (by rfl) ?_; rintro _ _ ⟨_, rfl, rfl⟩) | (refine sc_w (by rfl) (W_alloc1 (by rfl)) (by rfl) ?_; rintro _ _ ⟨_, rfl, rfl⟩))
    | (refine s1_box ?_; first | (refine sc_w (by rfl) (W_boxA (by rfl)) (by rfl) ?_; rintro _ _ ⟨_, rfl, rfl⟩) | (refine sc_w (by rfl) (W_box1 (by rfl) (by rfl)) (by rfl) ?_; rintro _ _ ⟨_, rfl, rfl⟩))
    | (refine s1_conv ?_; first | refine sc_r (R_conv64 (by rfl) (by omega)) (by rfl) ?_)
    | (refine s1_slice ?_; first | refine sc_r (R_slice_h (by rfl) (by rfl) (by omega)) (by rfl) ?_ | refine sc_r (R_slice_l (by rfl) (by rfl) (by omega)) (by rfl) ?_ | refine sc_r (R_slice_lh (by rfl) (by rfl) (by rfl) (by omega)) (by rfl) ?_)
    | (refine s1_any ?_; first | refine sc_r (R_not (by rfl)) (by rfl) ?_ | refine sc_r (R_extract (by rfl) (by rfl)) (by rfl) ?_ | (refine sc_w (by rfl) (W_buildSlice1 (by rfl) (by rfl) (by rfl) (by rfl) (by rfl)) (by rfl) ?_; rintro _ _ ⟨_, rfl, rfl⟩) | (refine sc_w (by rfl) (W_buildSlice1s (by rfl) (by rfl)) (by rfl) ?_; rintro _ _ ⟨_, rfl, rfl⟩) | (refine sc_w (by rfl) (W_buildSlice (by rfl) (by rfl) (by rfl) (by rfl)) (by rfl) ?_; rintro _ _ ⟨_, rfl, rfl⟩) | refine sc_r (R_build (by rfl) (by rfl)) (by rfl) ?_ | refine sc_r (R_nilCheck (by rfl)) (by rfl) ?_ | refine sc_r (R_nilCheck_func (by rfl)) (by rfl) ?_ | (refine sc_w (by rfl) W_makeMap (by rfl) ?_; rintro _ _ ⟨_, rfl, rfl⟩) | refine sc_r (R_makeInterface (by rfl)) (by rfl) ?_ | refine sc_r (R_makeFunc (by rfl) (by rfl)) (by rfl) ?_)
    | refine swl_nil ?_
    | refine sx_next ?_
    | refine sw_seq ?_
    | refine sw_region ?_
    | refine sw_block ?_
    | refine swl_g_on (by rfl) (by rfl) ?_
    | refine swl_g_off (by rfl) (by rfl) (by rfl) (by rfl) ?_
    | refine swl_g_un (by rfl) (by rfl) (by rfl) ?_
    | refine swl_g_pos (by rfl) (by rfl) (by first | assumption | omega) ?_
    | refine swl_g_neg (by rfl) (by rfl) (by first | assumption | omega) ?_
    | refine swl_g_npos (by rfl) (by rfl) (by first | assumption | omega) ?_
    | refine swl_g_nneg (by rfl) (by rfl) (by first | assumption | omega) ?_
    | refine swl_g_dec (by rfl) (by rfl) (fun hp => ?_) (fun hp => ?_)
    | refine swl_g_ndec (by rfl) (by rfl) (fun hp => ?_) (fun hp => ?_)
    | refine swl_g_bool (by rfl) (by rfl) (fun hp => ?_) (fun hp => ?_)
    | refine sx_past_ret ?_
    | refine sx_past_exit ?_
    | refine sx_block_normal ?_
    | refine sx_block_ret ?_
    | refine sx_block_here ?_
    | refine sx_block_past (by rfl) ?_
    | refine sw_cond_true (by rfl) ?_
    | refine sw_cond_false (by rfl) ?_
    | refine sw_cond_pos (by rfl) (by first | assumption | omega) ?_
    | refine sw_cond_neg (by rfl) (by first | assumption | omega) ?_
    | refine sw_cond_npos (by rfl) (by first | assumption | omega) ?_
    | refine sw_cond_nneg (by rfl) (by first | assumption | omega) ?_
    | refine sw_cond_dec (by rfl) (fun hp => ?_) (fun hp => ?_)
    | refine sw_cond_not (by rfl) (fun hp => ?_) (fun hp => ?_)
    | refine sw_cond_bool (by rfl) (fun hp => ?_) (fun hp => ?_)
    | refine sw_ret ?_
    | refine sw_exit ?_
    | refine sw_skip ?_)
    · refine sx_ret_of (res1 rfl (ResOne.tmp rfl)) L ⟨?_, rfl⟩ (by (repeat (first | exact Ent.refl _ | exact Ent.nil | (apply Ent.pick; focus ((repeat (first | exact Rem.here | apply Rem.there)); done)) | apply Ent.drop)))
      subst hp
      congr 1
      exact (List.contains_iff_mem.2 hmem).symm
    · refine sx_back (g + 1) (by omega) ?_ (subE.cons rfl (subE.cons rfl (subE.cons rfl subE.nil))) (by (repeat (first | exact Ent.refl _ | exact Ent.nil | (apply Ent.pick; focus ((repeat (first | exact Rem.here | apply Rem.there)); done)) | apply Ent.drop)))
      refine ⟨by omega, ?_⟩
      rw [hts]
      simp only [List.mem_append, List.mem_singleton, not_or]
      exact ⟨ht, fun h => hp h.symm⟩
  · repeat' (first
    | refine swl_op ?_
    | (refine s1_move ?_; refine sc_r (R_move (by rfl)) (by rfl) ?_)
    | (refine s1_load ?_; first | refine sc_r (L_load' (by rfl) (by infer_instance) (by rfl)) (by rfl) ?_ | refine sc_r (L_load_all (by rfl) (by infer_instance) (by rfl)) (by rfl) ?_ | refine sc_r (L_load_el (by rfl) (by infer_instance) (by infer_instance) (by omega) (by first | assumption | rfl)) (by rfl) ?_ | refine sc_r (L_load_el1 (by rfl) (by infer_instance) (by omega) (by first | assumption | rfl)) (by rfl) ?_ | refine sc_r (L_load_elf (by rfl) (by infer_instance) (by omega) (by first | assumption | rfl) (by rfl) (by rfl)) (by rfl) ?_ | refine sc_r (L_load_agg (by rfl) (by infer_instance) (by assumption) (by assumption)) (by rfl) ?_ | refine sc_r (L_load (by rfl) (by infer_instance) (by assumption)) (by rfl) ?_)
    | (refine s1_fieldAddr ?_; refine sc_r (R_fieldAddr (by rfl)) (by rfl) ?_)
    | (refine s1_assign ?_; refine sc_r (R_assign (by rfl)) (by rfl) ?_)
    | (refine s1_pick ?_; first | refine sc_r (R_pick_t (by rfl) (by rfl)) (by rfl) ?_ | refine sc_r (R_pick_f (by rfl) (by rfl)) (by rfl) ?_)
    | (refine s1_bin ?_; first | refine sc_r (R_lss (by rfl) (by rfl)) (by rfl) ?_ | refine sc_r (R_add64 (by rfl) (by rfl) (by omega)) (by rfl) ?_ | refine sc_r (R_gtr (by rfl) (by rfl)) (by rfl) ?_ | refine sc_r (R_leq (by rfl) (by rfl)) (by rfl) ?_ | refine sc_r (R_geq (by rfl) (by rfl)) (by rfl) ?_ | refine sc_r (R_eql (by rfl) (by rfl)) (by rfl) ?_ | refine sc_r (R_neq (by rfl) (by rfl)) (by rfl) ?_ | refine sc_r (R_sub64 (by rfl) (by rfl) (by omega)) (by rfl) ?_ | refine sc_r (R_mul64 (by rfl) (by rfl) (by first | assumption | omega)) (by rfl) ?_)
    | (refine s1_call ?_; first | (refine sc_w (by rfl) (W_append1 (by rfl) (by rfl) (by focus ((repeat (first | exact Rem.here | apply Rem.there)); done)) (by infer_instance) (by rfl) (by rfl) (by first | assumption | omega)) (by rfl) ?_; rintro _ _ rfl) | refine sc_r (R_len (by rfl)) (by rfl) ?_ | refine sc_r (R_len_str (by rfl)) (by rfl) ?_)
    | (refine s1_indexAddr ?_; first | refine sc_r (R_indexAddr (by rfl) (by rfl) (by omega)) (by rfl) ?_ | refine sc_r (R_indexAddr_arr (by rfl) (by rfl) (by omega)) (by rfl) ?_)
    | (refine s1_store ?_; first | (refine sc_w (by rfl) (W_storeAll (by rfl) (by rfl) (by infer_instance) (by rfl) (by rfl) (by rfl)) (by rfl) ?_; rintro _ _ ⟨rfl, rfl⟩) | (refine sc_w (by rfl) (W_storeL (by rfl) (by rfl) (by infer_instance) (by rfl) (by rfl) (by rfl)) (by rfl) ?_; rintro _ _ ⟨rfl, rfl⟩) | (refine sc_w (by rfl) (W_store1 (by rfl) (by rfl) (by infer_instance) (by rfl) (by assumption) (by rfl)) (by rfl) ?_; rintro _ _ ⟨rfl, rfl⟩))
    | (refine s1_alloc ?_; first | (refine sc_w (by rfl) W_allocA (by rfl) ?_; rintro _ _ ⟨_, rfl, rfl⟩) | (refine sc_w (by rfl) (W_alloc1 (by rfl)) (by rfl) ?_; rintro _ _ ⟨_, rfl, rfl⟩))
    | (refine s1_box ?_; first | (refine sc_w (by rfl) (W_boxA (by rfl)) (by rfl) ?_; rintro _ _ ⟨_, rfl, rfl⟩) | (refine sc_w (by rfl) (W_box1 (by rfl) (by rfl)) (by rfl) ?_; rintro _ _ ⟨_, rfl, rfl⟩))
    | (refine s1_conv ?_; first | refine sc_r (R_conv64 (by rfl) (by omega)) (by rfl) ?_)
    | (refine s1_slice ?_; first | refine sc_r (R_slice_h (by rfl) (by rfl) (by omega)) (by rfl) ?_ | refine sc_r (R_slice_l (by rfl) (by rfl) (by omega)) (by rfl) ?_ | refine sc_r (R_slice_lh (by rfl) (by rfl) (by rfl) (by omega)) (by rfl) ?_)
    | (refine s1_any ?_; first | refine sc_r (R_not (by rfl)) (by rfl) ?_ | refine sc_r (R_extract (by rfl) (by rfl)) (by rfl) ?_ | (refine sc_w (by rfl) (W_buildSlice1 (by rfl) (by rfl) (by rfl) (by rfl) (by rfl)) (by rfl) ?_; rintro _ _ ⟨_, rfl, rfl⟩) | (refine sc_w (by rfl) (W_buildSlice1s (by rfl) (by rfl)) (by rfl) ?_; rintro _ _ ⟨_, rfl, rfl⟩) | (refine sc_w (by rfl) (W_buildSlice (by rfl) (by rfl) (by rfl) (by rfl)) (by rfl) ?_; rintro _ _ ⟨_, rfl, rfl⟩) | refine sc_r (R_build (by rfl) (by rfl)) (by rfl) ?_ | refine sc_r (R_nilCheck (by rfl)) (by rfl) ?_ | refine sc_r (R_nilCheck_func (by rfl)) (by rfl) ?_ | (refine sc_w (by rfl) W_makeMap (by rfl) ?_; rintro _ _ ⟨_, rfl, rfl⟩) | refine sc_r (R_makeInterface (by rfl)) (by rfl) ?_ | refine sc_r (R_makeFunc (by rfl) (by rfl)) (by rfl) ?_)
    | refine swl_nil ?_
    | refine sx_next ?_
    | refine sw_seq ?_
    | refine sw_region ?_
    | refine sw_block ?_
    | refine swl_g_on (by rfl) (by rfl) ?_
    | refine swl_g_off (by rfl) (by rfl) (by rfl) (by rfl) ?_
    | refine swl_g_un (by rfl) (by rfl) (by rfl) ?_
    | refine swl_g_pos (by rfl) (by rfl) (by first | assumption | omega) ?_
    | refine swl_g_neg (by rfl) (by rfl) (by first | assumption | omega) ?_
    | refine swl_g_npos (by rfl) (by rfl) (by first | assumption | omega) ?_
    | refine swl_g_nneg (by rfl) (by rfl) (by first | assumption | omega) ?_
    | refine swl_g_dec (by rfl) (by rfl) (fun hp => ?_) (fun hp => ?_)
    | refine swl_g_ndec (by rfl) (by rfl) (fun hp => ?_) (fun hp => ?_)
    | refine swl_g_bool (by rfl) (by rfl) (fun hp => ?_) (fun hp => ?_)
    | refine sx_past_ret ?_
    | refine sx_past_exit ?_
    | refine sx_block_normal ?_
    | refine sx_block_ret ?_
    | refine sx_block_here ?_
    | refine sx_block_past (by rfl) ?_
    | refine sw_cond_true (by rfl) ?_
    | refine sw_cond_false (by rfl) ?_
    | refine sw_cond_pos (by rfl) (by first | assumption | omega) ?_
    | refine sw_cond_neg (by rfl) (by first | assumption | omega) ?_
    | refine sw_cond_npos (by rfl) (by first | assumption | omega) ?_
    | refine sw_cond_nneg (by rfl) (by first | assumption | omega) ?_
    | refine sw_cond_dec (by rfl) (fun hp => ?_) (fun hp => ?_)
    | refine sw_cond_not (by rfl) (fun hp => ?_) (fun hp => ?_)
    | refine sw_cond_bool (by rfl) (fun hp => ?_) (fun hp => ?_)
    | refine sw_ret ?_
    | refine sw_exit ?_
    | refine sw_skip ?_)
    refine sx_ret_of (res1 rfl (ResOne.tmp rfl)) L ⟨?_, rfl⟩ (by (repeat (first | exact Ent.refl _ | exact Ent.nil | (apply Ent.pick; focus ((repeat (first | exact Rem.here | apply Rem.there)); done)) | apply Ent.drop)))
    rw [List.take_of_length_le (by omega)] at ht
    congr 1
    simp [ht]

theorem ref08_Same (a b : List Int) {L : List HP} {p q : Option Addr} {n m cp cq : Nat} (ha : SlC L p 1 n cp (a.map fun z => #[Value.int .i64 z])) (hb : SlC L q 1 m cq (b.map fun z => #[Value.int .i64 z])) :
    Tr Try.prog 27 [.slice p n cp, .slice q m cq].toArray L (fun v L' => v = .bool (decide (a = b)) ∧ L = L') := by
  have hla : a.length = n := by simpa using ha.len
  have hlb : b.length = m := by simpa using hb.len
  have hbd := ha.bd
  refine tr_enter Try.func27 rfl Try.ntmps27 rfl fun w0 => ?_
  repeat' (first
    | refine swl_op ?_
    | (refine s1_move ?_; refine sc_r (R_move (by rfl)) (by rfl) ?_)
    | (refine s1_load ?_; first | refine sc_r (L_load' (by rfl) (by infer_instance) (by rfl)) (by rfl) ?_ | refine sc_r (L_load_all (by rfl) (by infer_instance) (by rfl)) (by rfl) ?_ | refine sc_r (L_load_el (by rfl) (by infer_instance) (by infer_instance) (by omega) (by first | assumption | rfl)) (by rfl) ?_ | refine sc_r (L_load_el1 (by rfl) (by infer_instance) (by omega) (by first | assumption | rfl)) (by rfl) ?_ | refine sc_r (L_load_elf (by rfl) (by infer_instance) (by omega) (by first | assumption | rfl) (by rfl) (by rfl)) (by rfl) ?_ | refine sc_r (L_load_agg (by rfl) (by infer_instance) (by assumption) (by assumption)) (by rfl) ?_ | refine sc_r (L_load (by rfl) (by infer_instance) (by assumption)) (by rfl) ?_)
    | (refine s1_fieldAddr ?_; refine sc_r (R_fieldAddr (by rfl)) (by rfl) ?_)
    | (refine s1_assign ?_; refine sc_r (R_assign (by rfl)) (by rfl) ?_)
    | (refine s1_pick ?_; first | refine sc_r (R_pick_t (by rfl) (by rfl)) (by rfl) ?_ | refine sc_r (R_pick_f (by rfl) (by rfl)) (by rfl) ?_)
    | (refine s1_bin ?_; first | refine sc_r (R_lss (by rfl) (by rfl)) (by rfl) ?_ | refine sc_r (R_add64 (by rfl) (by rfl) (by omega)) (by rfl) ?_ | refine sc_r (R_gtr (by rfl) (by rfl)) (by rfl) ?_ | refine sc_r (R_leq (by rfl) (by rfl)) (by rfl) ?_ | refine sc_r (R_geq (by rfl) (by rfl)) (by rfl) ?_ | refine sc_r (R_eql (by rfl) (by rfl)) (by rfl) ?_ | refine sc_r (R_neq (by rfl) (by rfl)) (by rfl) ?_ | refine sc_r (R_sub64 (by rfl) (by rfl) (by omega)) (by rfl) ?_ | refine sc_r (R_mul64 (by rfl) (by rfl) (by first | assumption | omega)) (by rfl) ?_)
    | (refine s1_call ?_; first | (refine sc_w (by rfl) (W_append1 (by rfl) (by rfl) (by focus ((repeat (first | exact Rem.here | apply Rem.there)); done)) (by infer_instance) (by rfl) (by rfl) (by first | assumption | omega)) (by rfl) ?_; rintro _ _ rfl) | refine sc_r (R_len (by rfl)) (by rfl) ?_ | refine sc_r (R_len_str (by rfl)) (by rfl) ?_)
    | (refine s1_indexAddr ?_; first | refine sc_r (R_indexAddr (by rfl) (by rfl) (by omega)) (by rfl) ?_ | refine sc_r (R_indexAddr_arr (by rfl) (by rfl) (by omega)) (by rfl) ?_)
    | (refine s1_store ?_; first | (refine sc_w (by rfl) (W_storeAll (by rfl) (by rfl) (by infer_instance) (by rfl) (by rfl) (by rfl)) (by rfl) ?_; rintro _ _ ⟨rfl, rfl⟩) | (refine sc_w (by rfl) (W_storeL (by rfl) (by rfl) (by infer_instance) (by rfl) (by rfl) (by rfl)) (by rfl) ?_; rintro _ _ ⟨rfl, rfl⟩) | (refine sc_w (by rfl) (W_store1 (by rfl) (by rfl) (by infer_instance) (by rfl) (by assumption) (by rfl)) (by rfl) ?_; rintro _ _ ⟨rfl, rfl⟩))
    | (refine s1_alloc ?_; first | (refine sc_w (by rfl) W_allocA (by rfl) ?_; rintro _ _ ⟨_, rfl, rfl⟩) | (refine sc_w (by rfl) (W_alloc1 (by rfl)) (by rfl) ?_; rintro _ _ ⟨_, rfl, rfl⟩))
    | (refine s1_box ?_; first | (refine sc_w (by rfl) (W_boxA (by rfl)) (by rfl) ?_; rintro _ _ ⟨_, rfl, rfl⟩) | (refine sc_w (by rfl) (W_box1 (by rfl) (by rfl)) (by rfl) ?_; rintro _ _ ⟨_, rfl, rfl⟩))
    | (refine s1_conv ?_; first | refine sc_r (R_conv64 (by rfl) (by omega)) (by rfl) ?_)
    | (refine s1_slice ?_; first | refine sc_r (R_slice_h (by rfl) (by rfl) (by omega)) (by rfl) ?_ | refine sc_r (R_slice_l (by rfl) (by rfl) (by omega)) (by rfl) ?_ | refine sc_r (R_slice_lh (by rfl) (by rfl) (by rfl) (by omega)) (by rfl) ?_)
    | (refine s1_any ?_; first | refine sc_r (R_not (by rfl)) (by rfl) ?_ | refine sc_r (R_extract (by rfl) (by rfl)) (by rfl) ?_ | (refine sc_w (by rfl) (W_buildSlice1 (by rfl) (by rfl) (by rfl) (by rfl) (by rfl)) (by rfl) ?_; rintro _ _ ⟨_, rfl, rfl⟩) | (refine sc_w (by rfl) (W_buildSlice1s (by rfl) (by rfl)) (by rfl) ?_; rintro _ _ ⟨_, rfl, rfl⟩) | (refine sc_w (by rfl) (W_buildSlice (by rfl) (by rfl) (by rfl) (by rfl)) (by rfl) ?_; rintro _ _ ⟨_, rfl, rfl⟩) | refine sc_r (R_build (by rfl) (by rfl)) (by rfl) ?_ | refine sc_r (R_nilCheck (by rfl)) (by rfl) ?_ | refine sc_r (R_nilCheck_func (by rfl)) (by rfl) ?_ | (refine sc_w (by rfl) W_makeMap (by rfl) ?_; rintro _ _ ⟨_, rfl, rfl⟩) | refine sc_r (R_makeInterface (by rfl)) (by rfl) ?_ | refine sc_r (R_makeFunc (by rfl) (by rfl)) (by rfl) ?_)
    | refine swl_nil ?_
    | refine sx_next ?_
    | refine sw_seq ?_
    | refine sw_region ?_
    | refine sw_block ?_
    | refine swl_g_on (by rfl) (by rfl) ?_
    | refine swl_g_off (by rfl) (by rfl) (by rfl) (by rfl) ?_
    | refine swl_g_un (by rfl) (by rfl) (by rfl) ?_
    | refine swl_g_pos (by rfl) (by rfl) (by first | assumption | omega) ?_
    | refine swl_g_neg (by rfl) (by rfl) (by first | assumption | omega) ?_
    | refine swl_g_npos (by rfl) (by rfl) (by first | assumption | omega) ?_
    | refine swl_g_nneg (by rfl) (by rfl) (by first | assumption | omega) ?_
    | refine swl_g_dec (by rfl) (by rfl) (fun hp => ?_) (fun hp => ?_)
    | refine swl_g_ndec (by rfl) (by rfl) (fun hp => ?_) (fun hp => ?_)
    | refine swl_g_bool (by rfl) (by rfl) (fun hp => ?_) (fun hp => ?_)
    | refine sx_past_ret ?_
    | refine sx_past_exit ?_
    | refine sx_block_normal ?_
    | refine sx_block_ret ?_
    | refine sx_block_here ?_
    | refine sx_block_past (by rfl) ?_
    | refine sw_cond_true (by rfl) ?_
    | refine sw_cond_false (by rfl) ?_
    | refine sw_cond_pos (by rfl) (by first | assumption | omega) ?_
    | refine sw_cond_neg (by rfl) (by first | assumption | omega) ?_
    | refine sw_cond_npos (by rfl) (by first | assumption | omega) ?_
    | refine sw_cond_nneg (by rfl) (by first | assumption | omega) ?_
    | refine sw_cond_dec (by rfl) (fun hp => ?_) (fun hp => ?_)
    | refine sw_cond_not (by rfl) (fun hp => ?_) (fun hp => ?_)
    | refine sw_cond_bool (by rfl) (fun hp => ?_) (fun hp => ?_)
    | refine sw_ret ?_
    | refine sw_exit ?_
    | refine sw_skip ?_)
  · refine sx_ret_of (res1 rfl (ResOne.tmp rfl)) L ⟨?_, rfl⟩ (by (repeat (first | exact Ent.refl _ | exact Ent.nil | (apply Ent.pick; focus ((repeat (first | exact Rem.here | apply Rem.there)); done)) | apply Ent.drop)))
    have : a ≠ b := fun h => by subst h; omega
    simp [this]
  obtain rfl : n = m := by omega
  refine sw_loop (γ := Nat) (fun g => n - g) (fun g => [(0, .slice p n cp), (1, .slice q n cq), (5, .int .i64 g)]) (fun _ => L) (fun g => g ≤ n ∧ a.take g = b.take g) 0 ⟨by omega, rfl⟩ (subE.cons rfl (subE.cons rfl (subE.cons rfl subE.nil))) (by (repeat (first | exact Ent.refl _ | exact Ent.nil | (apply Ent.pick; focus ((repeat (first | exact Rem.here | apply Rem.there)); done)) | apply Ent.drop))) ?_
  intro g ⟨hg, ht⟩
  by_cases hlt : g < n
  · obtain ⟨b1, o1, rfl⟩ := ha.ptr (by omega)
    have hl1 : g < a.length := by omega
    have he1 := ints_get hl1
    obtain ⟨b2, o2, rfl⟩ := hb.ptr (by omega)
    have hl2 : g < b.length := by omega
    have he2 := ints_get hl2
    repeat' (first
    | refine swl_op ?_
    | (refine s1_move ?_; refine sc_r (R_move (by rfl)) (by rfl) ?_)
    | (refine s1_load ?_; first | refine sc_r (L_load' (by rfl) (by infer_instance) (by rfl)) (by rfl) ?_ | refine sc_r (L_load_all (by rfl) (by infer_instance) (by rfl)) (by rfl) ?_ | refine sc_r (L_load_el (by rfl) (by infer_instance) (by infer_instance) (by omega) (by first | assumption | rfl)) (by rfl) ?_ | refine sc_r (L_load_el1 (by rfl) (by infer_instance) (by omega) (by first | assumption | rfl)) (by rfl) ?_ | refine sc_r (L_load_elf (by rfl) (by infer_instance) (by omega) (by first | assumption | rfl) (by rfl) (by rfl)) (by rfl) ?_ | refine sc_r (L_load_agg (by rfl) (by infer_instance) (by assumption) (by assumption)) (by rfl) ?_ | refine sc_r (L_load (by rfl) (by infer_instance) (by assumption)) (by rfl) ?_)
    | (refine s1_fieldAddr ?_; refine sc_r (R_fieldAddr (by rfl)) (by rfl) ?_)
    | (refine s1_assign ?_; refine sc_r (R_assign (by rfl)) (by rfl) ?_)
    | (refine s1_pick ?_; first | refine sc_r (R_pick_t (by rfl) (by rfl)) (by rfl) ?_ | refine sc_r (R_pick_f (by rfl) (by rfl)) (by rfl) ?_)
    | (refine s1_bin ?_; first | refine sc_r (R_lss (by rfl) (by rfl)) (by rfl) ?_ | refine sc_r (R_add64 (by rfl) (by rfl) (by omega)) (by rfl) ?_ | refine sc_r (R_gtr (by rfl) (by rfl)) (by rfl) ?_ | refine sc_r (R_leq (by rfl) (by rfl)) (by rfl) ?_ | refine sc_r (R_geq (by rfl) (by rfl)) (by rfl) ?_ | refine sc_r (R_eql (by rfl) (by rfl)) (by rfl) ?_ | refine sc_r (R_neq (by rfl) (by rfl)) (by rfl) ?_ | refine sc_r (R_sub64 (by rfl) (by rfl) (by omega)) (by rfl) ?_ | refine sc_r (R_mul64 (by rfl) (by rfl) (by first | assumption | omega)) (by rfl) ?_)
    | (refine s1_call ?_; first | (refine sc_w (by rfl) (W_append1 (by rfl) (by rfl) (by focus ((repeat (first | exact Rem.here | apply Rem.there)); done)) (by infer_instance) (by rfl) (by rfl) (by first | assumption | omega)) (by rfl) ?_; rintro _ _ rfl) | refine sc_r (R_len (by rfl)) (by rfl) ?_ | refine sc_r (R_len_str (by rfl)) (by rfl) ?_)
    | (refine s1_indexAddr ?_; first | refine sc_r (R_indexAddr (by rfl) (by rfl) (by omega)) (by rfl) ?_ | refine sc_r (R_indexAddr_arr (by rfl) (by rfl) (by omega)) (by rfl) ?_)
    | (refine s1_store ?_; first | (refine sc_w (by rfl) (W_storeAll (by rfl) (by rfl) (by infer_instance) (by rfl) (by rfl) (by rfl)) (by rfl) ?_; rintro _ _ ⟨rfl, rfl⟩) | (refine sc_w (by rfl) (W_storeL (by rfl) (by rfl) (by infer_instance) (by rfl) (by rfl) (by rfl)) (by rfl) ?_; rintro _ _ ⟨rfl, rfl⟩) | (refine sc_w (by rfl) (W_store1 (by rfl) (by rfl) (by infer_instance) (by rfl) (by assumption) (by rfl)) (by rfl) ?_; rintro _ _ ⟨rfl, rfl⟩))
    | (refine s1_alloc ?_; first | (refine sc_w (by rfl) W_allocA (by rfl) ?_; rintro _ _ ⟨_, rfl, rfl⟩) | (refine sc_w (by rfl) (W_alloc1 (by rfl)) (by rfl) ?_; rintro _ _ ⟨_, rfl, rfl⟩))
    | (refine s1_box ?_; first | (refine sc_w (by rfl) (W_boxA (by rfl)) (by rfl) ?_; rintro _ _ ⟨_, rfl, rfl⟩) | (refine sc_w (by rfl) (W_box1 (by rfl) (by rfl)) (by rfl) ?_; rintro _ _ ⟨_, rfl, rfl⟩))
    | (refine s1_conv ?_; first | refine sc_r (R_conv64 (by rfl) (by omega)) (by rfl) ?_)
    | (refine s1_slice ?_; first | refine sc_r (R_slice_h (by rfl) (by rfl) (by omega)) (by rfl) ?_ | refine sc_r (R_slice_l (by rfl) (by rfl) (by omega)) (by rfl) ?_ | refine sc_r (R_slice_lh (by rfl) (by rfl) (by rfl) (by omega)) (by rfl) ?_)
    | (refine s1_any ?_; first | refine sc_r (R_not (by rfl)) (by rfl) ?_ | refine sc_r (R_extract (by rfl) (by rfl)) (by rfl) ?_ | (refine sc_w (by rfl) (W_buildSlice1 (by rfl) (by rfl) (by rfl) (by rfl) (by rfl)) (by rfl) ?_; rintro _ _ ⟨_, rfl, rfl⟩) | (refine sc_w (by rfl) (W_buildSlice1s (by rfl) (by rfl)) (by rfl) ?_; rintro _ _ ⟨_, rfl, rfl⟩) | (refine sc_w (by rfl) (W_buildSlice (by rfl) (by rfl) (by rfl) (by rfl)) (by rfl) ?_; rintro _ _ ⟨_, rfl, rfl⟩) | refine sc_r (R_build (by rfl) (by rfl)) (by rfl) ?_ | refine sc_r (R_nilCheck (by rfl)) (by rfl) ?_ | refine sc_r (R_nilCheck_func (by rfl)) (by rfl) ?_ | (refine sc_w (by rfl) W_makeMap (by rfl) ?_; rintro _ _ ⟨_, rfl, rfl⟩) | refine sc_r (R_makeInterface (by rfl)) (by rfl) ?_ | refine sc_r (R_makeFunc (by rfl) (by rfl)) (by rfl) ?_)
    | refine swl_nil ?_
    | refine sx_next ?_
    | refine sw_seq ?_
    | refine sw_region ?_
    | refine sw_block ?_
    | refine swl_g_on (by rfl) (by rfl) ?_
    | refine swl_g_off (by rfl) (by rfl) (by rfl) (by rfl) ?_
    | refine swl_g_un (by rfl) (by rfl) (by rfl) ?_
    | refine swl_g_pos (by rfl) (by rfl) (by first | assumption | omega) ?_
    | refine swl_g_neg (by rfl) (by rfl) (by first | assumption | omega) ?_
    | refine swl_g_npos (by rfl) (by rfl) (by first | assumption | omega) ?_
    | refine swl_g_nneg (by rfl) (by rfl) (by first | assumption | omega) ?_
    | refine swl_g_dec (by rfl) (by rfl) (fun hp => ?_) (fun hp => ?_)
    | refine swl_g_ndec (by rfl) (by rfl) (fun hp => ?_) (fun hp => ?_)
    | refine swl_g_bool (by rfl) (by rfl) (fun hp => ?_) (fun hp => ?_)
    | refine sx_past_ret ?_
    | refine sx_past_exit ?_
    | refine sx_block_normal ?_
    | refine sx_block_ret ?_
    | refine sx_block_here ?_
    | refine sx_block_past (by rfl) ?_
    | refine sw_cond_true (by rfl) ?_
    | refine sw_cond_false (by rfl) ?_
    | refine sw_cond_pos (by rfl) (by first | assumption | omega) ?_
    | refine sw_cond_neg (by rfl) (by first | assumption | omega) ?_
    | refine sw_cond_npos (by rfl) (by first | assumption | omega) ?_
    | refine sw_cond_nneg (by rfl) (by first | assumption | omega) ?_
    | refine sw_cond_dec (by rfl) (fun hp => ?_) (fun hp => ?_)
    | refine sw_cond_not (by rfl) (fun hp => ?_) (fun hp => ?_)
    | refine sw_cond_bool (by rfl) (fun hp => ?_) (fun hp => ?_)
    | refine sw_ret ?_
    | refine sw_exit ?_
    | refine sw_skip ?_
    | refine swh_lt (by rfl) (fun _ _ => wanted_none) ?_
    | refine swh_lt (by rfl) (wanted_on (by rfl) (by rfl)) ?_
    | refine swh_off (by rfl) (by rfl) (by rfl) (by rfl) (by rfl) ?_
    | refine swh_heavy_off (by rfl) (by rfl) (by rfl) (by rfl) (by rfl) ?_
    | refine swh_un (by rfl) (by rfl) (by rfl) (by rfl) ?_
    | refine swh_heavy_un (by rfl) (by rfl) (by rfl) (by rfl) ?_
    | refine swh_hv (by rfl) (fun _ _ => wanted_none) ?_
    | refine swh_hv (by rfl) (wanted_on (by rfl) (by rfl)) ?_
    | refine swh_g_pos (by rfl) (by rfl) (by rfl) (by first | assumption | omega) ?_
    | refine swh_g_neg (by rfl) (by rfl) (by rfl) (by first | assumption | omega) ?_
    | refine swh_g_npos (by rfl) (by rfl) (by rfl) (by first | assumption | omega) ?_
    | refine swh_g_nneg (by rfl) (by rfl) (by rfl) (by first | assumption | omega) ?_
    | refine swh_g_dec (by rfl) (by rfl) (by rfl) (fun hp => ?_) (fun hp => ?_)
    | refine swh_g_ndec (by rfl) (by rfl) (by rfl) (fun hp => ?_) (fun hp => ?_)
    | refine swh_g_bool (by rfl) (by rfl) (by rfl) (fun hp => ?_) (fun hp => ?_)
    | refine swh_nil ?_
    | (apply And.intro; focus ((repeat (first | exact Ent.refl _ | exact Ent.nil | (apply Ent.pick; focus ((repeat (first | exact Rem.here | apply Rem.there)); done)) | apply Ent.drop)); done))
    | (refine sw_draw [(0, true), (1, true), (2, true), (3, true), (4, true), (5, true), (6, true), (7, true), (8, true)] follows ?_ ?_ ?_; (focus rfl); (focus (decide +kernel))))
    · refine sx_ret_of (res1 rfl (ResOne.tmp rfl)) L ⟨?_, rfl⟩ (by (repeat (first | exact Ent.refl _ | exact Ent.nil | (apply Ent.pick; focus ((repeat (first | exact Rem.here | apply Rem.there)); done)) | apply Ent.drop)))
      have : a ≠ b := fun h => by subst h; exact hp rfl
      simp [this]
    · refine sx_back (g + 1) (by omega) ⟨by omega, ?_⟩ (subE.cons rfl (subE.cons rfl (subE.cons rfl subE.nil))) (by (repeat (first | exact Ent.refl _ | exact Ent.nil | (apply Ent.pick; focus ((repeat (first | exact Rem.here | apply Rem.there)); done)) | apply Ent.drop)))
      rw [List.take_succ_eq_append_getElem hl1, List.take_succ_eq_append_getElem hl2, ht, hp]
  · repeat' (first
    | refine swl_op ?_
    | (refine s1_move ?_; refine sc_r (R_move (by rfl)) (by rfl) ?_)
    | (refine s1_load ?_; first | refine sc_r (L_load' (by rfl) (by infer_instance) (by rfl)) (by rfl) ?_ | refine sc_r (L_load_all (by rfl) (by infer_instance) (by rfl)) (by rfl) ?_ | refine sc_r (L_load_el (by rfl) (by infer_instance) (by infer_instance) (by omega) (by first | assumption | rfl)) (by rfl) ?_ | refine sc_r (L_load_el1 (by rfl) (by infer_instance) (by omega) (by first | assumption | rfl)) (by rfl) ?_ | refine sc_r (L_load_elf (by rfl) (by infer_instance) (by omega) (by first | assumption | rfl) (by rfl) (by rfl)) (by rfl) ?_ | refine sc_r (L_load_agg (by rfl) (by infer_instance) (by assumption) (by assumption)) (by rfl) ?_ | refine sc_r (L_load (by rfl) (by infer_instance) (by assumption)) (by rfl) ?_)
    | (refine s1_fieldAddr ?_; refine sc_r (R_fieldAddr (by rfl)) (by rfl) ?_)
    | (refine s1_assign ?_; refine sc_r (R_assign (by rfl)) (by rfl) ?_)
    | (refine s1_pick ?_; first | refine sc_r (R_pick_t (by rfl) (by rfl)) (by rfl) ?_ | refine sc_r (R_pick_f (by rfl) (by rfl)) (by rfl) ?_)
    | (refine s1_bin ?_; first | refine sc_r (R_lss (by rfl) (by rfl)) (by rfl) ?_ | refine sc_r (R_add64 (by rfl) (by rfl) (by omega)) (by rfl) ?_ | refine sc_r (R_gtr (by rfl) (by rfl)) (by rfl) ?_ | refine sc_r (R_leq (by rfl) (by rfl)) (by rfl) ?_ | refine sc_r (R_geq (by rfl) (by rfl)) (by rfl) ?_ | refine sc_r (R_eql (by rfl) (by rfl)) (by rfl) ?_ | refine sc_r (R_neq (by rfl) (by rfl)) (by rfl) ?_ | refine sc_r (R_sub64 (by rfl) (by rfl) (by omega)) (by rfl) ?_ | refine sc_r (R_mul64 (by rfl) (by rfl) (by first | assumption | omega)) (by rfl) ?_)
    | (refine s1_call ?_; first | (refine sc_w (by rfl) (W_append1 (by rfl) (by rfl) (by focus ((repeat (first | exact Rem.here | apply Rem.there)); done)) (by infer_instance) (by rfl) (by rfl) (by first | assumption | omega)) (by rfl) ?_; rintro _ _ rfl) | refine sc_r (R_len (by rfl)) (by rfl) ?_ | refine sc_r (R_len_str (by rfl)) (by rfl) ?_)
    | (refine s1_indexAddr ?_; first | refine sc_r (R_indexAddr (by rfl) (by rfl) (by omega)) (by rfl) ?_ | refine sc_r (R_indexAddr_arr (by rfl) (by rfl) (by omega)) (by rfl) ?_)
    | (refine s1_store ?_; first | (refine sc_w (by rfl) (W_storeAll (by rfl) (by rfl) (by infer_instance) (by rfl) (by rfl) (by rfl)) (by rfl) ?_; rintro _ _ ⟨rfl, rfl⟩) | (refine sc_w (by rfl) (W_storeL (by rfl) (by rfl) (by infer_instance) (by rfl) (by rfl) (by rfl)) (by rfl) ?_; rintro _ _ ⟨rfl, rfl⟩) | (refine sc_w (by rfl) (W_store1 (by rfl) (by rfl) (by infer_instance) (by rfl) (by assumption) (by rfl)) (by rfl) ?_; rintro _ _ ⟨rfl, rfl⟩))
    | (refine s1_alloc ?_; first | (refine sc_w (by rfl) W_allocA (by rfl) ?_; rintro _ _ ⟨_, rfl, rfl⟩) | (refine sc_w (by rfl) (W_alloc1 (by rfl)) (by rfl) ?_; rintro _ _ ⟨_, rfl, rfl⟩))
    | (refine s1_box ?_; first | (refine sc_w (by rfl) (W_boxA (by rfl)) (by rfl) ?_; rintro _ _ ⟨_, rfl, rfl⟩) | (refine sc_w (by rfl) (W_box1 (by rfl) (by rfl)) (by rfl) ?_; rintro _ _ ⟨_, rfl, rfl⟩))
    | (refine s1_conv ?_; first | refine sc_r (R_conv64 (by rfl) (by omega)) (by rfl) ?_)
    | (refine s1_slice ?_; first | refine sc_r (R_slice_h (by rfl) (by rfl) (by omega)) (by rfl) ?_ | refine sc_r (R_slice_l (by rfl) (by rfl) (by omega)) (by rfl) ?_ | refine sc_r (R_slice_lh (by rfl) (by rfl) (by rfl) (by omega)) (by rfl) ?_)
    | (refine s1_any ?_; first | refine sc_r (R_not (by rfl)) (by rfl) ?_ | refine sc_r (R_extract (by rfl) (by rfl)) (by rfl) ?_ | (refine sc_w (by rfl) (W_buildSlice1 (by rfl) (by rfl) (by rfl) (by rfl) (by rfl)) (by rfl) ?_; rintro _ _ ⟨_, rfl, rfl⟩) | (refine sc_w (by rfl) (W_buildSlice1s (by rfl) (by rfl)) (by rfl) ?_; rintro _ _ ⟨_, rfl, rfl⟩) | (refine sc_w (by rfl) (W_buildSlice (by rfl) (by rfl) (by rfl) (by rfl)) (by rfl) ?_; rintro _ _ ⟨_, rfl, rfl⟩) | refine sc_r (R_build (by rfl) (by rfl)) (by rfl) ?_ | refine sc_r (R_nilCheck (by rfl)) (by rfl) ?_ | refine sc_r (R_nilCheck_func (by rfl)) (by rfl) ?_ | (refine sc_w (by rfl) W_makeMap (by rfl) ?_; rintro _ _ ⟨_, rfl, rfl⟩) | refine sc_r (R_makeInterface (by rfl)) (by rfl) ?_ | refine sc_r (R_makeFunc (by rfl) (by rfl)) (by rfl) ?_)
    | refine swl_nil ?_
    | refine sx_next ?_
    | refine sw_seq ?_
    | refine sw_region ?_
    | refine sw_block ?_
    | refine swl_g_on (by rfl) (by rfl) ?_
    | refine swl_g_off (by rfl) (by rfl) (by rfl) (by rfl) ?_
    | refine swl_g_un (by rfl) (by rfl) (by rfl) ?_
    | refine swl_g_pos (by rfl) (by rfl) (by first | assumption | omega) ?_
    | refine swl_g_neg (by rfl) (by rfl) (by first | assumption | omega) ?_
    | refine swl_g_npos (by rfl) (by rfl) (by first | assumption | omega) ?_
    | refine swl_g_nneg (by rfl) (by rfl) (by first | assumption | omega) ?_
    | refine swl_g_dec (by rfl) (by rfl) (fun hp => ?_) (fun hp => ?_)
    | refine swl_g_ndec (by rfl) (by rfl) (fun hp => ?_) (fun hp => ?_)
    | refine swl_g_bool (by rfl) (by rfl) (fun hp => ?_) (fun hp => ?_)
    | refine sx_past_ret ?_
    | refine sx_past_exit ?_
    | refine sx_block_normal ?_
    | refine sx_block_ret ?_
    | refine sx_block_here ?_
    | refine sx_block_past (by rfl) ?_
    | refine sw_cond_true (by rfl) ?_
    | refine sw_cond_false (by rfl) ?_
    | refine sw_cond_pos (by rfl) (by first | assumption | omega) ?_
    | refine sw_cond_neg (by rfl) (by first | assumption | omega) ?_
    | refine sw_cond_npos (by rfl) (by first | assumption | omega) ?_
    | refine sw_cond_nneg (by rfl) (by first | assumption | omega) ?_
    | refine sw_cond_dec (by rfl) (fun hp => ?_) (fun hp => ?_)
    | refine sw_cond_not (by rfl) (fun hp => ?_) (fun hp => ?_)
    | refine sw_cond_bool (by rfl) (fun hp => ?_) (fun hp => ?_)
    | refine sw_ret ?_
    | refine sw_exit ?_
    | refine sw_skip ?_)
    refine sx_ret_of (res1 rfl (ResOne.tmp rfl)) L ⟨?_, rfl⟩ (by (repeat (first | exact Ent.refl _ | exact Ent.nil | (apply Ent.pick; focus ((repeat (first | exact Rem.here | apply Rem.there)); done)) | apply Ent.drop)))
    have : a = b := by rw [List.take_of_length_le (by omega), List.take_of_length_le (by omega)] at ht; exact ht
    simp [this]
end Go.Proofs.Ytcdpiedgfkebcaa
