/-
  The witness call of the gain laws.
-/
import Derived.Test.YtcdpiedgfkebcaaRank4
import Derived.Test.YtcdpiedgfkebcaaBase8
namespace Go.Proofs.Ytcdpiedgfkebcaa
open Go Go.SL Go.Proofs Go.Sort

theorem leG_trans (us : List Use) (now : Int) (h : ∀ u ∈ us, mayU u now = true) (a b c : Fin us.length) : leG us now a b = true → leG us now b c = true → leG us now a c = true := by
  simp only [leG, Bool.not_eq_true']
  exact fun h1 h2 => (gcf_swo us now h).ntrans c b a h2 h1
theorem leG_total (us : List Use) (now : Int) (h : ∀ u ∈ us, mayU u now = true) (a b : Fin us.length) : (leG us now a b || leG us now b a) = true := by
  simp only [leG, Bool.or_eq_true, Bool.not_eq_true']
  cases h1 : ltOf (gcf us now) b a
  · exact .inl rfl
  · exact .inr ((gcf_swo us now h).asymmA h1)
theorem leG_anti (us : List Use) (now : Int) (a b : Fin us.length) (h1 : leG us now a b = true) (h2 : leG us now b a = true) : a = b := by
  simp only [leG, Bool.not_eq_true'] at h1 h2
  exact gcf_total us now a b h2 h1
theorem rankF_eq {us : List Use} {busy : List Int} {now : Int} (h : ∀ u ∈ us, mayU u now = true) {l : List (Fin us.length)} (hs : l.Pairwise fun a b => leG us now a b = true) (hp : l.Perm ((List.finRange us.length).filter (idxOk us busy))) : rankF us busy now = l :=
  List.Perm.eq_of_pairwise (le := fun a b => leG us now a b = true) (fun a b _ _ => leG_anti us now a b) (List.pairwise_mergeSort (leG_trans us now h) (leG_total us now h) _) hs ((List.mergeSort_perm _ _).trans hp.symm)

def awU : List Use := [⟨16, 0⟩, ⟨8, 1⟩, ⟨4, 5⟩, ⟨0, 0⟩]
theorem aw_all : ∀ u ∈ awU, mayU u 10 = true := by decide
theorem aw_rankOk : rankOk awU 10 = true := by decide
theorem aw_rank : rankS awU [] 10 = [2, 1] := by
  have hF : rankF awU [] 10 = [(⟨2, by decide⟩ : Fin awU.length), (⟨1, by decide⟩ : Fin awU.length)] := by
    refine rankF_eq aw_all (by decide) ?_
    have hf : (List.finRange awU.length).filter (idxOk awU []) = [(⟨1, by decide⟩ : Fin awU.length), (⟨2, by decide⟩ : Fin awU.length)] := by decide
    rw [hf]
    exact List.Perm.swap _ _ _
  rw [rankS, aw_rankOk, if_pos rfl, hF]
  rfl

theorem SlC.nil {L : List HP} {k : Nat} : SlC L none k 0 0 [] := ⟨rfl, Nat.le_refl _, by simp, by simp, by simp⟩

theorem aw_Rank {L : List HP} {p : Option Addr} {n cp : Nat} (hl : SlC L p 2 n cp (awU.map Use.cells)) :
    Tr Try.prog 24 [.slice p n cp, .slice none 0 0, .int .i64 10].toArray L
      (fun v L' => ∃ s, v = .tuple #[s, .int .i64 0] ∧ L' = vec 3 1 [#[.int .i64 2], #[.int .i64 1]] s :: L) := by
  have h := gain_Rank awU [] 10 hl SlC.nil (by have := hl.len; simp [awU] at this; omega)
  rw [aw_rankOk, aw_rank] at h
  exact h
theorem aw_Compare {L : List HP} : Tr Try.prog 19 [.agg #[.int .i64 8, .int .i64 1], .agg #[.int .i64 4, .int .i64 5], .int .i64 10].toArray L (fun v L' => v = .int .i64 (-1) ∧ L = L') := by
  have h := gain_Compare ⟨8, 1⟩ ⟨4, 5⟩ 10 (L := L)
  rw [show gainC ⟨8, 1⟩ ⟨4, 5⟩ 10 = -1 by decide] at h
  exact h
theorem aw_Same2 {L : List HP} {p q : Option Addr} {n m cp cq : Nat} (ha : SlC L p 1 n cp [#[.int .i64 2], #[.int .i64 1]]) (hb : SlC L q 1 m cq [#[.int .i64 2], #[.int .i64 1]]) :
    Tr Try.prog 27 [.slice p n cp, .slice q m cq].toArray L (fun v L' => v = .bool true ∧ L = L') := by
  have h := ref08_Same [2, 1] [2, 1] ha hb
  simp only [decide_true] at h
  exact h

theorem awake18 {L : List HP} : Tr Try.prog 21 ([] : List Value).toArray L (fun v L' => v = .bool true ∧ L = L') := by
  refine tr_enter Try.func21 rfl Try.ntmps21 rfl fun w0 => ?_
  repeat' (first
    | refine swl_op ?_
    | (refine s1_move ?_; refine sc_r (R_move (by rfl)) (by rfl) ?_)
    | (refine s1_load ?_; first | refine sc_r (L_load' (by rfl) (by infer_instance) (by rfl)) (by rfl) ?_ | refine sc_r (L_load_all (by rfl) (by infer_instance) (by rfl)) (by rfl) ?_ | refine sc_r (L_load_el (by rfl) (by infer_instance) (by infer_instance) (by omega) (by first | assumption | rfl)) (by rfl) ?_ | refine sc_r (L_load_el1 (by rfl) (by infer_instance) (by omega) (by first | assumption | rfl)) (by rfl) ?_ | refine sc_r (L_load_elf (by rfl) (by infer_instance) (by omega) (by first | assumption | rfl) (by rfl) (by rfl)) (by rfl) ?_ | refine sc_r (L_load_agg (by rfl) (by infer_instance) (by assumption) (by assumption)) (by rfl) ?_ | refine sc_r (L_load (by rfl) (by infer_instance) (by assumption)) (by rfl) ?_)
    | (refine s1_fieldAddr ?_; refine sc_r (R_fieldAddr (by rfl)) (by rfl) ?_)
    | (refine s1_assign ?_; refine sc_r (R_assign (by rfl)) (by rfl) ?_)
    | (refine s1_pick ?_; first | refine sc_r (R_pick_t (by rfl) (by rfl)) (by rfl) ?_ | refine sc_r (R_pick_f (by rfl) (by rfl)) (by rfl) ?_)
    | (refine s1_bin ?_; first | refine sc_r (R_lss (by rfl) (by rfl)) (by rfl) ?_ | refine sc_r (R_add64 (by rfl) (by rfl) (by omega)) (by rfl) ?_ | refine sc_r (R_gtr (by rfl) (by rfl)) (by rfl) ?_ | refine sc_r (R_leq (by rfl) (by rfl)) (by rfl) ?_ | refine sc_r (R_geq (by rfl) (by rfl)) (by rfl) ?_ | refine sc_r (R_eql (by rfl) (by rfl)) (by rfl) ?_ | refine sc_r (R_neq (by rfl) (by rfl)) (by rfl) ?_ | refine sc_r (R_sub64 (by rfl) (by rfl) (by omega)) (by rfl) ?_ | refine sc_r (R_mul64 (by rfl) (by rfl) (by first | assumption | omega)) (by rfl) ?_)
    | (refine s1_call ?_; first | (refine sc_c (by rfl) (C_call (by rfl) (by infer_instance) (by rfl) (by rfl) (aw_Rank (by infer_instance))) (by rfl) ?_; rintro _ _ ⟨vc, rfl, rfl⟩; refine swl_know (fun h H => vec_fact H) ?_; rintro ⟨pc, cc, rfl, hf⟩) | (refine sc_c (by rfl) (C_call (by rfl) (by infer_instance) (by rfl) (by rfl) (aw_Compare)) (by rfl) ?_; rintro _ _ ⟨rfl, rfl⟩) | (refine sc_c (by rfl) (C_call (by rfl) (by infer_instance) (by rfl) (by rfl) (aw_Same2 (by infer_instance) (by infer_instance))) (by rfl) ?_; rintro _ _ ⟨rfl, rfl⟩) | (refine sc_w (by rfl) (W_append1 (by rfl) (by rfl) (by focus ((repeat (first | exact Rem.here | apply Rem.there)); done)) (by infer_instance) (by rfl) (by rfl) (by first | assumption | omega)) (by rfl) ?_; rintro _ _ rfl) | refine sc_r (R_len (by rfl)) (by rfl) ?_ | refine sc_r (R_len_str (by rfl)) (by rfl) ?_)
    | (refine s1_indexAddr ?_; first | refine sc_r (R_indexAddr (by rfl) (by rfl) (by omega)) (by rfl) ?_ | refine sc_r (R_indexAddr_arr (by rfl) (by rfl) (by omega)) (by rfl) ?_)
    | (refine s1_store ?_; first | (refine sc_w (by rfl) (W_storeAll (by rfl) (by rfl) (by infer_instance) (by rfl) (by rfl) (by rfl)) (by rfl) ?_; rintro _ _ ⟨rfl, rfl⟩) | (refine sc_w (by rfl) (W_storeL (by rfl) (by rfl) (by infer_instance) (by rfl) (by rfl) (by rfl)) (by rfl) ?_; rintro _ _ ⟨rfl, rfl⟩) | (refine sc_w (by rfl) (W_store1 (by rfl) (by rfl) (by infer_instance) (by rfl) (by assumption) (by rfl)) (by rfl) ?_; rintro _ _ ⟨rfl, rfl⟩))
    | (refine s1_alloc ?_; first | (refine sc_w (by rfl) W_allocA (by rfl) ?_; rintro _ _ ⟨_, rfl, rfl⟩) | (refine sc_w (by rfl) (W_alloc1 (by rfl)) (by rfl) ?_; rintro _ _ ⟨_, rfl, rfl⟩))
    | (refine s1_box ?_; first | (refine sc_w (by rfl) (W_boxA (by rfl)) (by rfl) ?_; rintro _ _ ⟨_, rfl, rfl⟩) | (refine sc_w (by rfl) (W_box1 (by rfl) (by rfl)) (by rfl) ?_; rintro _ _ ⟨_, rfl, rfl⟩))
    | (refine s1_conv ?_; first | refine sc_r (R_conv64 (by rfl) (by omega)) (by rfl) ?_)
    | (refine s1_slice ?_; first | refine sc_r (R_slice_h (by rfl) (by rfl) (by omega)) (by rfl) ?_ | refine sc_r (R_slice_l (by rfl) (by rfl) (by omega)) (by rfl) ?_ | refine sc_r (R_slice_lh (by rfl) (by rfl) (by rfl) (by omega)) (by rfl) ?_)
    | (refine s1_any ?_; first | refine sc_r (R_buildL (by rfl) (by rfl)) (by rfl) ?_ | (refine sc_w (by rfl) (W_buildSliceV (by rfl) (by rfl) (by rfl) (by rfl) (by rfl) (by rfl) (by rfl)) (by rfl) ?_; rintro _ _ ⟨_, rfl, rfl, _, _⟩) | (refine sc_w (by rfl) W_buildSlice0 (by rfl) ?_; rintro _ _ ⟨_, rfl, rfl⟩) | refine sc_r (R_not (by rfl)) (by rfl) ?_ | refine sc_r (R_extract (by rfl) (by rfl)) (by rfl) ?_ | (refine sc_w (by rfl) (W_buildSlice1 (by rfl) (by rfl) (by rfl) (by rfl) (by rfl)) (by rfl) ?_; rintro _ _ ⟨_, rfl, rfl⟩) | (refine sc_w (by rfl) (W_buildSlice1s (by rfl) (by rfl)) (by rfl) ?_; rintro _ _ ⟨_, rfl, rfl⟩) | (refine sc_w (by rfl) (W_buildSlice (by rfl) (by rfl) (by rfl) (by rfl)) (by rfl) ?_; rintro _ _ ⟨_, rfl, rfl⟩) | refine sc_r (R_build (by rfl) (by rfl)) (by rfl) ?_ | refine sc_r (R_nilCheck (by rfl)) (by rfl) ?_ | refine sc_r (R_nilCheck_func (by rfl)) (by rfl) ?_ | (refine sc_w (by rfl) W_makeMap (by rfl) ?_; rintro _ _ ⟨_, rfl, rfl⟩) | refine sc_r (R_makeInterface (by rfl)) (by rfl) ?_ | refine sc_r (R_makeFunc (by rfl) (by rfl)) (by rfl) ?_)
    | refine swl_nil ?_
    | refine sx_next ?_
    | refine sw_seq ?_
    | refine sw_region ?_
    | refine sw_block ?_
    | refine swl_g_on (by rfl) (by rfl) ?_
    | refine swl_g_off (by rfl) (by rfl) (by rfl) (by rfl) ?_
    | refine swl_g_un (by rfl) (by rfl) (by rfl) ?_
    | refine swl_g_pos (by rfl) (by rfl) (by first | assumption | omega) ?_
    | refine swl_g_neg (by rfl) (by rfl) (by first | assumption | omega) ?_
    | refine swl_g_npos (by rfl) (by rfl) (by first | assumption | omega) ?_
    | refine swl_g_nneg (by rfl) (by rfl) (by first | assumption | omega) ?_
    | refine swl_g_dec (by rfl) (by rfl) (fun hp => ?_) (fun hp => ?_)
    | refine swl_g_ndec (by rfl) (by rfl) (fun hp => ?_) (fun hp => ?_)
    | refine swl_g_bool (by rfl) (by rfl) (fun hp => ?_) (fun hp => ?_)
    | refine sx_past_ret ?_
    | refine sx_past_exit ?_
    | refine sx_block_normal ?_
    | refine sx_block_ret ?_
    | refine sx_block_here ?_
    | refine sx_block_past (by rfl) ?_
    | refine sw_cond_true (by rfl) ?_
    | refine sw_cond_false (by rfl) ?_
    | refine sw_cond_pos (by rfl) (by first | assumption | omega) ?_
    | refine sw_cond_neg (by rfl) (by first | assumption | omega) ?_
    | refine sw_cond_npos (by rfl) (by first | assumption | omega) ?_
    | refine sw_cond_nneg (by rfl) (by first | assumption | omega) ?_
    | refine sw_cond_dec (by rfl) (fun hp => ?_) (fun hp => ?_)
    | refine sw_cond_not (by rfl) (fun hp => ?_) (fun hp => ?_)
    | refine sw_cond_bool (by rfl) (fun hp => ?_) (fun hp => ?_)
    | refine sw_ret ?_
    | refine sw_exit ?_
    | refine sw_skip ?_)
  --DBG
  refine sx_ret_of (res1 rfl (ResOne.tmp rfl)) L ⟨?_, rfl⟩ (by (repeat (first | exact Ent.refl _ | exact Ent.nil | (apply Ent.pick; focus ((repeat (first | exact Rem.here | apply Rem.there)); done)) | apply Ent.drop)))
  rfl
end Go.Proofs.Ytcdpiedgfkebcaa
