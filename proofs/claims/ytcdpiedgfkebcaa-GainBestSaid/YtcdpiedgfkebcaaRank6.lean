/-
  The document's ranking, walked.
-/
import Derived.Test.YtcdpiedgfkebcaaRank5
namespace Go.Proofs.Ytcdpiedgfkebcaa
open Go Go.SL Go.Proofs Go.Sort

theorem filt_take_succ {α : Type} (p : α → Bool) {l : List α} {k : Nat} (h : k < l.length) : (l.take (k + 1)).filter p = (l.take k).filter p ++ if p l[k] then [l[k]] else [] := by
  rw [List.take_succ_eq_append_getElem h, List.filter_append]
  by_cases hp : p l[k] <;> simp [hp]
theorem rk_lt {us : List Use} {busy : List Int} {now : Int} : ∀ g, g ≤ us.length → (∀ k ∈ rkF us busy now ((List.finRange us.length).take g), (k : Nat) < g) ∧ (rkF us busy now ((List.finRange us.length).take g)).length ≤ g := by
  intro g
  induction g with
  | zero => intro _; simp [rkF]
  | succ g ih =>
    intro hg
    obtain ⟨h1, h2⟩ := ih (by omega)
    rw [finRange_take_succ (show g < us.length by omega), rkF_snoc]
    split
    · refine ⟨fun k hk => ?_, ?_⟩
      · rcases List.mem_cons.1 ((insG_perm us now _ _).mem_iff.1 hk) with rfl | hk
        · exact Nat.lt_succ_self _
        · have := h1 k hk; omega
      · rw [(insG_perm us now _ _).length_eq]; simp; omega
    · exact ⟨fun k hk => by have := h1 k hk; omega, by omega⟩
theorem fcell_get {n : Nat} {l : List (Fin n)} {g : Nat} (h : g < l.length) : (l.map fcell).getD g #[] = #[Value.int .i64 ((l[g] : Nat) : Int)] := by simp [h, fcell]
theorem ref18_Compare' (a b : Use) (now : Int) (ha : mayU a now = true) (hb : mayU b now = true) {L : List HP} : Tr Try.prog 20 [.agg a.cells, .agg b.cells, .int .i64 now].toArray L (fun v L' => v = .int .i64 (gcmp a b now) ∧ L = L') := by
  have h := ref18_Compare a b now (L := L)
  rw [show gainC a b now = gcmp a b now by simp [gainC, ha, hb]] at h
  exact h

set_option maxHeartbeats 4000000 in
theorem ref18_Rank (us : List Use) (busy : List Int) (now : Int) {L : List HP} {p q : Option Addr} {n cp m cq : Nat} (hl : SlC L p 2 n cp (us.map Use.cells)) (hq : SlC L q 1 m cq (busy.map fun z => #[Value.int .i64 z])) (hn : n ≤ 1000) :
    Tr Try.prog 25 [.slice p n cp, .slice q m cq, .int .i64 now].toArray L
      (fun v L' => ∃ s, v = .tuple #[s, .bool (rankOk us now)] ∧ L' = vec 3 1 ((rankS us busy now).map fun z => #[Value.int .i64 z]) s :: L) := by
  have hlen : us.length = n := by simpa using hl.len
  have hno : rankOk us now = false → rankS us busy now = [] := fun h => by rw [rankS, h, if_neg (by simp)]
  refine tr_enter Try.func25 rfl Try.ntmps25 rfl fun w0 => ?_
  repeat' (first
    | refine swl_op ?_
    | (refine s1_move ?_; refine sc_r (R_move (by rfl)) (by rfl) ?_)
    | (refine s1_load ?_; first | refine sc_r (L_load' (by rfl) (by infer_instance) (by rfl)) (by rfl) ?_ | refine sc_r (L_load_all (by rfl) (by infer_instance) (by rfl)) (by rfl) ?_ | refine sc_r (L_load_el (by rfl) (by infer_instance) (by infer_instance) (by omega) (by first | assumption | rfl)) (by rfl) ?_ | refine sc_r (L_load_el1 (by rfl) (by infer_instance) (by omega) (by first | assumption | rfl)) (by rfl) ?_ | refine sc_r (L_load_elf (by rfl) (by infer_instance) (by omega) (by first | assumption | rfl) (by rfl) (by rfl)) (by rfl) ?_ | refine sc_r (L_load_agg (by rfl) (by infer_instance) (by assumption) (by assumption)) (by rfl) ?_ | refine sc_r (L_load (by rfl) (by infer_instance) (by assumption)) (by rfl) ?_)
    | (refine s1_fieldAddr ?_; refine sc_r (R_fieldAddr (by rfl)) (by rfl) ?_)
    | (refine s1_assign ?_; refine sc_r (R_assign (by rfl)) (by rfl) ?_)
    | (refine s1_pick ?_; first | refine sc_r (R_pick_t (by rfl) (by rfl)) (by rfl) ?_ | refine sc_r (R_pick_f (by rfl) (by rfl)) (by rfl) ?_)
    | (refine s1_bin ?_; first | refine sc_r (R_lss (by rfl) (by rfl)) (by rfl) ?_ | refine sc_r (R_add64 (by rfl) (by rfl) (by omega)) (by rfl) ?_ | refine sc_r (R_gtr (by rfl) (by rfl)) (by rfl) ?_ | refine sc_r (R_leq (by rfl) (by rfl)) (by rfl) ?_ | refine sc_r (R_geq (by rfl) (by rfl)) (by rfl) ?_ | refine sc_r (R_eql (by rfl) (by rfl)) (by rfl) ?_ | refine sc_r (R_neq (by rfl) (by rfl)) (by rfl) ?_ | refine sc_r (R_sub64 (by rfl) (by rfl) (by omega)) (by rfl) ?_ | refine sc_r (R_mul64 (by rfl) (by rfl) (by first | assumption | omega)) (by rfl) ?_)
    | (refine s1_call ?_; first | (refine sc_w (by rfl) (W_append1 (by rfl) (by rfl) (by focus ((repeat (first | exact Rem.here | apply Rem.there)); done)) (by infer_instance) (by rfl) (by rfl) (by first | assumption | omega)) (by rfl) ?_; rintro _ _ rfl) | refine sc_r (R_len (by rfl)) (by rfl) ?_ | refine sc_r (R_len_str (by rfl)) (by rfl) ?_)
    | (refine s1_indexAddr ?_; first | refine sc_r (R_indexAddr (by rfl) (by rfl) (by omega)) (by rfl) ?_ | refine sc_r (R_indexAddr_arr (by rfl) (by rfl) (by omega)) (by rfl) ?_)
    | (refine s1_store ?_; first | (refine sc_w (by rfl) (W_storeAll (by rfl) (by rfl) (by infer_instance) (by rfl) (by rfl) (by rfl)) (by rfl) ?_; rintro _ _ ⟨rfl, rfl⟩) | (refine sc_w (by rfl) (W_storeL (by rfl) (by rfl) (by infer_instance) (by rfl) (by rfl) (by rfl)) (by rfl) ?_; rintro _ _ ⟨rfl, rfl⟩) | (refine sc_w (by rfl) (W_store1 (by rfl) (by rfl) (by infer_instance) (by rfl) (by assumption) (by rfl)) (by rfl) ?_; rintro _ _ ⟨rfl, rfl⟩))
    | (refine s1_alloc ?_; first | (refine sc_w (by rfl) W_allocA (by rfl) ?_; rintro _ _ ⟨_, rfl, rfl⟩) | (refine sc_w (by rfl) (W_alloc1 (by rfl)) (by rfl) ?_; rintro _ _ ⟨_, rfl, rfl⟩))
    | (refine s1_box ?_; first | (refine sc_w (by rfl) (W_boxA (by rfl)) (by rfl) ?_; rintro _ _ ⟨_, rfl, rfl⟩) | (refine sc_w (by rfl) (W_box1 (by rfl) (by rfl)) (by rfl) ?_; rintro _ _ ⟨_, rfl, rfl⟩))
    | (refine s1_conv ?_; first | refine sc_r (R_conv64 (by rfl) (by omega)) (by rfl) ?_)
    | (refine s1_slice ?_; first | refine sc_r (R_slice_h (by rfl) (by rfl) (by omega)) (by rfl) ?_ | refine sc_r (R_slice_l (by rfl) (by rfl) (by omega)) (by rfl) ?_ | refine sc_r (R_slice_lh (by rfl) (by rfl) (by rfl) (by omega)) (by rfl) ?_)
    | (refine s1_any ?_; first | refine sc_r (R_not (by rfl)) (by rfl) ?_ | refine sc_r (R_extract (by rfl) (by rfl)) (by rfl) ?_ | (refine sc_w (by rfl) (W_buildSlice1 (by rfl) (by rfl) (by rfl) (by rfl) (by rfl)) (by rfl) ?_; rintro _ _ ⟨_, rfl, rfl⟩) | (refine sc_w (by rfl) (W_buildSlice1s (by rfl) (by rfl)) (by rfl) ?_; rintro _ _ ⟨_, rfl, rfl⟩) | (refine sc_w (by rfl) (W_buildSlice (by rfl) (by rfl) (by rfl) (by rfl)) (by rfl) ?_; rintro _ _ ⟨_, rfl, rfl⟩) | refine sc_r (R_build (by rfl) (by rfl)) (by rfl) ?_ | refine sc_r (R_nilCheck (by rfl)) (by rfl) ?_ | refine sc_r (R_nilCheck_func (by rfl)) (by rfl) ?_ | (refine sc_w (by rfl) W_makeMap (by rfl) ?_; rintro _ _ ⟨_, rfl, rfl⟩) | refine sc_r (R_makeInterface (by rfl)) (by rfl) ?_ | refine sc_r (R_makeFunc (by rfl) (by rfl)) (by rfl) ?_)
    | refine swl_nil ?_
    | refine sx_next ?_
    | refine sw_seq ?_
    | refine sw_region ?_
    | refine sw_block ?_
    | refine swl_g_on (by rfl) (by rfl) ?_
    | refine swl_g_off (by rfl) (by rfl) (by rfl) (by rfl) ?_
    | refine swl_g_un (by rfl) (by rfl) (by rfl) ?_
    | refine swl_g_pos (by rfl) (by rfl) (by first | assumption | omega) ?_
    | refine swl_g_neg (by rfl) (by rfl) (by first | assumption | omega) ?_
    | refine swl_g_npos (by rfl) (by rfl) (by first | assumption | omega) ?_
    | refine swl_g_nneg (by rfl) (by rfl) (by first | assumption | omega) ?_
    | refine swl_g_dec (by rfl) (by rfl) (fun hp => ?_) (fun hp => ?_)
    | refine swl_g_ndec (by rfl) (by rfl) (fun hp => ?_) (fun hp => ?_)
    | refine swl_g_bool (by rfl) (by rfl) (fun hp => ?_) (fun hp => ?_)
    | refine sx_past_ret ?_
    | refine sx_past_exit ?_
    | refine sx_block_normal ?_
    | refine sx_block_ret ?_
    | refine sx_block_here ?_
    | refine sx_block_past (by rfl) ?_
    | refine sw_cond_true (by rfl) ?_
    | refine sw_cond_false (by rfl) ?_
    | refine sw_cond_pos (by rfl) (by first | assumption | omega) ?_
    | refine sw_cond_neg (by rfl) (by first | assumption | omega) ?_
    | refine sw_cond_npos (by rfl) (by first | assumption | omega) ?_
    | refine sw_cond_nneg (by rfl) (by first | assumption | omega) ?_
    | refine sw_cond_dec (by rfl) (fun hp => ?_) (fun hp => ?_)
    | refine sw_cond_not (by rfl) (fun hp => ?_) (fun hp => ?_)
    | refine sw_cond_bool (by rfl) (fun hp => ?_) (fun hp => ?_)
    | refine sw_ret ?_
    | refine sw_exit ?_
    | refine sw_skip ?_)
  all_goals try (have hr : rankOk us now = false := by simp only [rankOk, fitsU, Bool.and_eq_false_iff, decide_eq_false_iff_not]; exact .inl (by omega)
                 rw [hno hr, hr]
                 exact sx_ret_of (res2 rfl (ResOne.tmp rfl) (ResOne.tmp rfl)) _ ⟨_, rfl, rfl⟩ Ent.vec_nil)
  have hfit : fitsU now = true := by simp only [fitsU, decide_eq_true_eq]; omega
  refine sw_loop (γ := Nat × Value) (fun g => n - g.1) (fun g => [(0, .slice p n cp), (1, .slice q m cq), (2, .int .i64 now), (8, g.2), (9, .int .i64 g.1)]) (fun g => vec 3 1 ((rkF us busy now ((List.finRange us.length).take g.1)).map fcell) g.2 :: L) (fun g => g.1 ≤ n ∧ ∀ u ∈ us.take g.1, mayU u now = true) (0, .slice none 0 0) (by simp)
    (by exact subE.cons rfl (subE.cons rfl (subE.cons rfl (subE.cons rfl (subE.cons rfl subE.nil))))) Ent.vec_nil ?_
  rintro ⟨g, vo⟩ ⟨hg, hmg⟩
  dsimp only at hg hmg ⊢
  refine sw_know (fun h H => vec_fact H) ?_
  rintro ⟨po, co, rfl, hf⟩
  have hrl := rk_lt (busy := busy) (now := now) g (show g ≤ us.length by omega)
  by_cases hlt : g < n
  · obtain ⟨b1, o1, rfl⟩ := hl.ptr (by omega)
    have hl1 : g < us.length := by omega
    have he1 := uses_get hl1
    have hts : rkF us busy now ((List.finRange us.length).take (g + 1)) = if idxOk us busy ⟨g, hl1⟩ then insG us now ⟨g, hl1⟩ (rkF us busy now ((List.finRange us.length).take g)) else rkF us busy now ((List.finRange us.length).take g) := by rw [finRange_take_succ hl1, rkF_snoc]
    generalize rkF us busy now ((List.finRange us.length).take g) = O at *
    rw [List.length_map] at *
    cases hmx : mayU us[g] now
    · generalize hx : us[g] = x at *
      repeat' (first
    | refine swl_op ?_
    | (refine s1_move ?_; refine sc_r (R_move (by rfl)) (by rfl) ?_)
    | (refine s1_load ?_; first | refine sc_r (L_load' (by rfl) (by infer_instance) (by rfl)) (by rfl) ?_ | refine sc_r (L_load_all (by rfl) (by infer_instance) (by rfl)) (by rfl) ?_ | refine sc_r (L_load_el (by rfl) (by infer_instance) (by infer_instance) (by omega) (by first | assumption | rfl)) (by rfl) ?_ | refine sc_r (L_load_el1 (by rfl) (by infer_instance) (by omega) (by first | assumption | rfl)) (by rfl) ?_ | refine sc_r (L_load_elf (by rfl) (by infer_instance) (by omega) (by first | assumption | rfl) (by rfl) (by rfl)) (by rfl) ?_ | refine sc_r (L_load_agg (by rfl) (by infer_instance) (by assumption) (by assumption)) (by rfl) ?_ | refine sc_r (L_load (by rfl) (by infer_instance) (by assumption)) (by rfl) ?_)
    | (refine s1_fieldAddr ?_; refine sc_r (R_fieldAddr (by rfl)) (by rfl) ?_)
    | (refine s1_assign ?_; refine sc_r (R_assign (by rfl)) (by rfl) ?_)
    | (refine s1_pick ?_; first | refine sc_r (R_pick_t (by rfl) (by rfl)) (by rfl) ?_ | refine sc_r (R_pick_f (by rfl) (by rfl)) (by rfl) ?_)
    | (refine s1_bin ?_; first | refine sc_r (R_lss (by rfl) (by rfl)) (by rfl) ?_ | refine sc_r (R_add64 (by rfl) (by rfl) (by omega)) (by rfl) ?_ | refine sc_r (R_gtr (by rfl) (by rfl)) (by rfl) ?_ | refine sc_r (R_leq (by rfl) (by rfl)) (by rfl) ?_ | refine sc_r (R_geq (by rfl) (by rfl)) (by rfl) ?_ | refine sc_r (R_eql (by rfl) (by rfl)) (by rfl) ?_ | refine sc_r (R_neq (by rfl) (by rfl)) (by rfl) ?_ | refine sc_r (R_sub64 (by rfl) (by rfl) (by omega)) (by rfl) ?_ | refine sc_r (R_mul64 (by rfl) (by rfl) (by first | assumption | omega)) (by rfl) ?_)
    | (refine s1_call ?_; first | (refine sc_c (by rfl) (C_call (by rfl) (by infer_instance) (by rfl) (by rfl) (ref18_May' x now _ hmx)) (by rfl) ?_; rintro _ _ ⟨rfl, rfl⟩) | (refine sc_w (by rfl) (W_append1 (by rfl) (by rfl) (by focus ((repeat (first | exact Rem.here | apply Rem.there)); done)) (by infer_instance) (by rfl) (by rfl) (by first | assumption | omega)) (by rfl) ?_; rintro _ _ rfl) | refine sc_r (R_len (by rfl)) (by rfl) ?_ | refine sc_r (R_len_str (by rfl)) (by rfl) ?_)
    | (refine s1_indexAddr ?_; first | refine sc_r (R_indexAddr (by rfl) (by rfl) (by omega)) (by rfl) ?_ | refine sc_r (R_indexAddr_arr (by rfl) (by rfl) (by omega)) (by rfl) ?_)
    | (refine s1_store ?_; first | (refine sc_w (by rfl) (W_storeAll (by rfl) (by rfl) (by infer_instance) (by rfl) (by rfl) (by rfl)) (by rfl) ?_; rintro _ _ ⟨rfl, rfl⟩) | (refine sc_w (by rfl) (W_storeL (by rfl) (by rfl) (by infer_instance) (by rfl) (by rfl) (by rfl)) (by rfl) ?_; rintro _ _ ⟨rfl, rfl⟩) | (refine sc_w (by rfl) (W_store1 (by rfl) (by rfl) (by infer_instance) (by rfl) (by assumption) (by rfl)) (by rfl) ?_; rintro _ _ ⟨rfl, rfl⟩))
    | (refine s1_alloc ?_; first | (refine sc_w (by rfl) W_allocA (by rfl) ?_; rintro _ _ ⟨_, rfl, rfl⟩) | (refine sc_w (by rfl) (W_alloc1 (by rfl)) (by rfl) ?_; rintro _ _ ⟨_, rfl, rfl⟩))
    | (refine s1_box ?_; first | (refine sc_w (by rfl) (W_boxA (by rfl)) (by rfl) ?_; rintro _ _ ⟨_, rfl, rfl⟩) | (refine sc_w (by rfl) (W_box1 (by rfl) (by rfl)) (by rfl) ?_; rintro _ _ ⟨_, rfl, rfl⟩))
    | (refine s1_conv ?_; first | refine sc_r (R_conv64 (by rfl) (by omega)) (by rfl) ?_)
    | (refine s1_slice ?_; first | refine sc_r (R_slice_h (by rfl) (by rfl) (by omega)) (by rfl) ?_ | refine sc_r (R_slice_l (by rfl) (by rfl) (by omega)) (by rfl) ?_ | refine sc_r (R_slice_lh (by rfl) (by rfl) (by rfl) (by omega)) (by rfl) ?_)
    | (refine s1_any ?_; first | refine sc_r (R_not (by rfl)) (by rfl) ?_ | refine sc_r (R_extract (by rfl) (by rfl)) (by rfl) ?_ | (refine sc_w (by rfl) (W_buildSlice1 (by rfl) (by rfl) (by rfl) (by rfl) (by rfl)) (by rfl) ?_; rintro _ _ ⟨_, rfl, rfl⟩) | (refine sc_w (by rfl) (W_buildSlice1s (by rfl) (by rfl)) (by rfl) ?_; rintro _ _ ⟨_, rfl, rfl⟩) | (refine sc_w (by rfl) (W_buildSlice (by rfl) (by rfl) (by rfl) (by rfl)) (by rfl) ?_; rintro _ _ ⟨_, rfl, rfl⟩) | refine sc_r (R_build (by rfl) (by rfl)) (by rfl) ?_ | refine sc_r (R_nilCheck (by rfl)) (by rfl) ?_ | refine sc_r (R_nilCheck_func (by rfl)) (by rfl) ?_ | (refine sc_w (by rfl) W_makeMap (by rfl) ?_; rintro _ _ ⟨_, rfl, rfl⟩) | refine sc_r (R_makeInterface (by rfl)) (by rfl) ?_ | refine sc_r (R_makeFunc (by rfl) (by rfl)) (by rfl) ?_)
    | refine swl_nil ?_
    | refine sx_next ?_
    | refine sw_seq ?_
    | refine sw_region ?_
    | refine sw_block ?_
    | refine swl_g_on (by rfl) (by rfl) ?_
    | refine swl_g_off (by rfl) (by rfl) (by rfl) (by rfl) ?_
    | refine swl_g_un (by rfl) (by rfl) (by rfl) ?_
    | refine swl_g_pos (by rfl) (by rfl) (by first | assumption | omega) ?_
    | refine swl_g_neg (by rfl) (by rfl) (by first | assumption | omega) ?_
    | refine swl_g_npos (by rfl) (by rfl) (by first | assumption | omega) ?_
    | refine swl_g_nneg (by rfl) (by rfl) (by first | assumption | omega) ?_
    | refine swl_g_dec (by rfl) (by rfl) (fun hp => ?_) (fun hp => ?_)
    | refine swl_g_ndec (by rfl) (by rfl) (fun hp => ?_) (fun hp => ?_)
    | refine swl_g_bool (by rfl) (by rfl) (fun hp => ?_) (fun hp => ?_)
    | refine sx_past_ret ?_
    | refine sx_past_exit ?_
    | refine sx_block_normal ?_
    | refine sx_block_ret ?_
    | refine sx_block_here ?_
    | refine sx_block_past (by rfl) ?_
    | refine sw_cond_true (by rfl) ?_
    | refine sw_cond_false (by rfl) ?_
    | refine sw_cond_pos (by rfl) (by first | assumption | omega) ?_
    | refine sw_cond_neg (by rfl) (by first | assumption | omega) ?_
    | refine sw_cond_npos (by rfl) (by first | assumption | omega) ?_
    | refine sw_cond_nneg (by rfl) (by first | assumption | omega) ?_
    | refine sw_cond_dec (by rfl) (fun hp => ?_) (fun hp => ?_)
    | refine sw_cond_not (by rfl) (fun hp => ?_) (fun hp => ?_)
    | refine sw_cond_bool (by rfl) (fun hp => ?_) (fun hp => ?_)
    | refine sw_ret ?_
    | refine sw_exit ?_
    | refine sw_skip ?_)
      have hr : rankOk us now = false := by
        simp only [rankOk, Bool.and_eq_false_iff, List.all_eq_false]
        exact .inr ⟨us[g], List.getElem_mem hl1, by rw [hx, hmx]; simp⟩
      rw [hno hr, hr]
      exact sx_ret_of (res2 rfl (ResOne.tmp rfl) (ResOne.tmp rfl)) _ ⟨_, rfl, rfl⟩ (by (repeat (first | apply Ent.drop | exact Ent.vec_nil)))
    · have hmg1 : ∀ u ∈ us.take (g + 1), mayU u now = true := by
        rw [List.take_succ_eq_append_getElem hl1]
        intro u hu
        rcases List.mem_append.1 hu with hu | hu
        · exact hmg u hu
        · rw [List.mem_singleton.1 hu]; exact hmx
      have hio : idxOk us busy ⟨g, hl1⟩ = (!busy.contains (g : Int) && decide (1 ≤ us[g].live ∧ us[g].live < 15)) := rfl
      have hask := fun (k : Fin us.length) (hk : (k : Nat) < g) => leG_ask us now (k := k) (i := ⟨g, hl1⟩) hk
      have hgx : us[(⟨g, hl1⟩ : Fin us.length)] = us[g] := rfl
      rw [hio] at hts
      simp only [hgx] at hask
      generalize hx : us[g] = x at *
      repeat' (first
    | refine swl_op ?_
    | (refine s1_move ?_; refine sc_r (R_move (by rfl)) (by rfl) ?_)
    | (refine s1_load ?_; first | refine sc_r (L_load' (by rfl) (by infer_instance) (by rfl)) (by rfl) ?_ | refine sc_r (L_load_all (by rfl) (by infer_instance) (by rfl)) (by rfl) ?_ | refine sc_r (L_load_el (by rfl) (by infer_instance) (by infer_instance) (by omega) (by first | assumption | rfl)) (by rfl) ?_ | refine sc_r (L_load_el1 (by rfl) (by infer_instance) (by omega) (by first | assumption | rfl)) (by rfl) ?_ | refine sc_r (L_load_elf (by rfl) (by infer_instance) (by omega) (by first | assumption | rfl) (by rfl) (by rfl)) (by rfl) ?_ | refine sc_r (L_load_agg (by rfl) (by infer_instance) (by assumption) (by assumption)) (by rfl) ?_ | refine sc_r (L_load (by rfl) (by infer_instance) (by assumption)) (by rfl) ?_)
    | (refine s1_fieldAddr ?_; refine sc_r (R_fieldAddr (by rfl)) (by rfl) ?_)
    | (refine s1_assign ?_; refine sc_r (R_assign (by rfl)) (by rfl) ?_)
    | (refine s1_pick ?_; first | refine sc_r (R_pick_t (by rfl) (by rfl)) (by rfl) ?_ | refine sc_r (R_pick_f (by rfl) (by rfl)) (by rfl) ?_)
    | (refine s1_bin ?_; first | refine sc_r (R_lss (by rfl) (by rfl)) (by rfl) ?_ | refine sc_r (R_add64 (by rfl) (by rfl) (by omega)) (by rfl) ?_ | refine sc_r (R_gtr (by rfl) (by rfl)) (by rfl) ?_ | refine sc_r (R_leq (by rfl) (by rfl)) (by rfl) ?_ | refine sc_r (R_geq (by rfl) (by rfl)) (by rfl) ?_ | refine sc_r (R_eql (by rfl) (by rfl)) (by rfl) ?_ | refine sc_r (R_neq (by rfl) (by rfl)) (by rfl) ?_ | refine sc_r (R_sub64 (by rfl) (by rfl) (by omega)) (by rfl) ?_ | refine sc_r (R_mul64 (by rfl) (by rfl) (by first | assumption | omega)) (by rfl) ?_)
    | (refine s1_call ?_; first | (refine sc_c (by rfl) (C_call (by rfl) (by infer_instance) (by rfl) (by rfl) (ref18_May' x now _ hmx)) (by rfl) ?_; rintro _ _ ⟨rfl, rfl⟩) | (refine sc_c (by rfl) (C_call (by rfl) (by infer_instance) (by rfl) (by rfl) (ref18_has busy g (by infer_instance))) (by rfl) ?_; rintro _ _ ⟨rfl, rfl⟩) | (refine sc_w (by rfl) (W_append1 (by rfl) (by rfl) (by focus ((repeat (first | exact Rem.here | apply Rem.there)); done)) (by infer_instance) (by rfl) (by rfl) (by first | assumption | omega)) (by rfl) ?_; rintro _ _ rfl) | refine sc_r (R_len (by rfl)) (by rfl) ?_ | refine sc_r (R_len_str (by rfl)) (by rfl) ?_)
    | (refine s1_indexAddr ?_; first | refine sc_r (R_indexAddr (by rfl) (by rfl) (by omega)) (by rfl) ?_ | refine sc_r (R_indexAddr_arr (by rfl) (by rfl) (by omega)) (by rfl) ?_)
    | (refine s1_store ?_; first | (refine sc_w (by rfl) (W_storeAll (by rfl) (by rfl) (by infer_instance) (by rfl) (by rfl) (by rfl)) (by rfl) ?_; rintro _ _ ⟨rfl, rfl⟩) | (refine sc_w (by rfl) (W_storeL (by rfl) (by rfl) (by infer_instance) (by rfl) (by rfl) (by rfl)) (by rfl) ?_; rintro _ _ ⟨rfl, rfl⟩) | (refine sc_w (by rfl) (W_store1 (by rfl) (by rfl) (by infer_instance) (by rfl) (by assumption) (by rfl)) (by rfl) ?_; rintro _ _ ⟨rfl, rfl⟩))
    | (refine s1_alloc ?_; first | (refine sc_w (by rfl) W_allocA (by rfl) ?_; rintro _ _ ⟨_, rfl, rfl⟩) | (refine sc_w (by rfl) (W_alloc1 (by rfl)) (by rfl) ?_; rintro _ _ ⟨_, rfl, rfl⟩))
    | (refine s1_box ?_; first | (refine sc_w (by rfl) (W_boxA (by rfl)) (by rfl) ?_; rintro _ _ ⟨_, rfl, rfl⟩) | (refine sc_w (by rfl) (W_box1 (by rfl) (by rfl)) (by rfl) ?_; rintro _ _ ⟨_, rfl, rfl⟩))
    | (refine s1_conv ?_; first | refine sc_r (R_conv64 (by rfl) (by omega)) (by rfl) ?_)
    | (refine s1_slice ?_; first | refine sc_r (R_slice_h (by rfl) (by rfl) (by omega)) (by rfl) ?_ | refine sc_r (R_slice_l (by rfl) (by rfl) (by omega)) (by rfl) ?_ | refine sc_r (R_slice_lh (by rfl) (by rfl) (by rfl) (by omega)) (by rfl) ?_)
    | (refine s1_any ?_; first | refine sc_r (R_not (by rfl)) (by rfl) ?_ | refine sc_r (R_extract (by rfl) (by rfl)) (by rfl) ?_ | (refine sc_w (by rfl) (W_buildSlice1 (by rfl) (by rfl) (by rfl) (by rfl) (by rfl)) (by rfl) ?_; rintro _ _ ⟨_, rfl, rfl⟩) | (refine sc_w (by rfl) (W_buildSlice1s (by rfl) (by rfl)) (by rfl) ?_; rintro _ _ ⟨_, rfl, rfl⟩) | (refine sc_w (by rfl) (W_buildSlice (by rfl) (by rfl) (by rfl) (by rfl)) (by rfl) ?_; rintro _ _ ⟨_, rfl, rfl⟩) | refine sc_r (R_build (by rfl) (by rfl)) (by rfl) ?_ | refine sc_r (R_nilCheck (by rfl)) (by rfl) ?_ | refine sc_r (R_nilCheck_func (by rfl)) (by rfl) ?_ | (refine sc_w (by rfl) W_makeMap (by rfl) ?_; rintro _ _ ⟨_, rfl, rfl⟩) | refine sc_r (R_makeInterface (by rfl)) (by rfl) ?_ | refine sc_r (R_makeFunc (by rfl) (by rfl)) (by rfl) ?_)
    | refine swl_nil ?_
    | refine sx_next ?_
    | refine sw_seq ?_
    | refine sw_region ?_
    | refine sw_block ?_
    | refine swl_g_on (by rfl) (by rfl) ?_
    | refine swl_g_off (by rfl) (by rfl) (by rfl) (by rfl) ?_
    | refine swl_g_un (by rfl) (by rfl) (by rfl) ?_
    | refine swl_g_pos (by rfl) (by rfl) (by first | assumption | omega) ?_
    | refine swl_g_neg (by rfl) (by rfl) (by first | assumption | omega) ?_
    | refine swl_g_npos (by rfl) (by rfl) (by first | assumption | omega) ?_
    | refine swl_g_nneg (by rfl) (by rfl) (by first | assumption | omega) ?_
    | refine swl_g_dec (by rfl) (by rfl) (fun hp => ?_) (fun hp => ?_)
    | refine swl_g_ndec (by rfl) (by rfl) (fun hp => ?_) (fun hp => ?_)
    | refine swl_g_bool (by rfl) (by rfl) (fun hp => ?_) (fun hp => ?_)
    | refine sx_past_ret ?_
    | refine sx_past_exit ?_
    | refine sx_block_normal ?_
    | refine sx_block_ret ?_
    | refine sx_block_here ?_
    | refine sx_block_past (by rfl) ?_
    | refine sw_cond_true (by rfl) ?_
    | refine sw_cond_false (by rfl) ?_
    | refine sw_cond_pos (by rfl) (by first | assumption | omega) ?_
    | refine sw_cond_neg (by rfl) (by first | assumption | omega) ?_
    | refine sw_cond_npos (by rfl) (by first | assumption | omega) ?_
    | refine sw_cond_nneg (by rfl) (by first | assumption | omega) ?_
    | refine sw_cond_dec (by rfl) (fun hp => ?_) (fun hp => ?_)
    | refine sw_cond_not (by rfl) (fun hp => ?_) (fun hp => ?_)
    | refine sw_cond_bool (by rfl) (fun hp => ?_) (fun hp => ?_)
    | refine sw_ret ?_
    | refine sw_exit ?_
    | refine sw_skip ?_)
      all_goals try (refine sx_back (g + 1, _) (by first | (simp only; omega) | omega) ⟨by first | (simp only; omega) | omega, hmg1⟩ (subE.cons rfl (subE.cons rfl (subE.cons rfl (subE.cons rfl (subE.cons rfl subE.nil))))) ?_
                     dsimp only
                     first | rw [hts, hp] | rw [hts, show decide (1 ≤ x.live ∧ x.live < 15) = false by simp; omega]
                     simp only [Bool.not_true, Bool.false_and, Bool.and_false, Bool.false_eq_true, if_false]
                     (repeat (first | exact Ent.refl _ | exact Ent.nil | (apply Ent.pick; focus ((repeat (first | exact Rem.here | apply Rem.there)); done)) | apply Ent.drop)); done)
      rw [hp, show decide (1 ≤ x.live ∧ x.live < 15) = true by simp; omega] at hts
      simp only [Bool.not_false, Bool.and_true, if_true] at hts
      rename_i bx _ _
      have hol : O.length ≤ 1000 := by omega
      refine sw_loop (γ := Nat × Value) (fun k => O.length - k.1) (fun k => [(0, .slice (some ⟨b1, o1, none⟩) n cp), (1, .slice q m cq), (2, .int .i64 now), (8, .slice po O.length co), (9, .int .i64 g), (10, .pointer (some ⟨bx, 0, none⟩)), (11, k.2), (12, .int .i64 k.1)])
        (fun k => vec 3 1 (((O.take k.1).filter fun y => leG us now y ⟨g, hl1⟩).map fcell) k.2 :: pt bx (.cells x.cells 40) :: vec 3 1 (O.map fcell) (.slice po O.length co) :: L) (fun k => k.1 ≤ O.length) (0, .slice none 0 0) (by simp)
        (by exact subE.cons rfl (subE.cons rfl (subE.cons rfl (subE.cons rfl (subE.cons rfl (subE.cons rfl (subE.cons rfl (subE.cons rfl subE.nil)))))))) Ent.vec_nil ?_
      rintro ⟨k, vn⟩ hk
      dsimp only at hk ⊢
      have hFO : Fact' ((O.map fcell).length = O.length) := ⟨by simp⟩
      have hfl : (((O.take k).filter fun y => leG us now y ⟨g, hl1⟩).map fcell).length ≤ 1000 := by
        rw [List.length_map]; exact Nat.le_trans (List.length_filter_le _ _) (by rw [List.length_take]; omega)
      by_cases hko : k < O.length
      · obtain ⟨b2, o2, rfl⟩ := hf.ptr (by omega)
        have he2 := fcell_get hko
        have hfs := filt_take_succ (fun y => leG us now y ⟨g, hl1⟩) hko
        have hyg := hrl.1 _ (List.getElem_mem hko)
        have hyl := hask _ hyg
        have hym := hmg us[O[k]] (List.mem_take_iff_getElem.2 ⟨(O[k] : Nat), by have := (O[k]).2; omega, rfl⟩)
        have he3 := uses_get (l := us) (g := (O[k] : Nat)) (O[k]).2
        have hgy : us[(O[k] : Nat)]'(O[k]).2 = us[O[k]] := rfl
        rw [hgy] at he3
        clear hgy
        generalize us[O[k]] = yu at *
        have hyn := (O[k]).2
        generalize O[k] = y at *
        repeat' (first
    | refine swl_op ?_
    | (refine s1_move ?_; refine sc_r (R_move (by rfl)) (by rfl) ?_)
    | (refine s1_load ?_; first | refine sc_r (L_load' (by rfl) (by infer_instance) (by rfl)) (by rfl) ?_ | refine sc_r (L_load_all (by rfl) (by infer_instance) (by rfl)) (by rfl) ?_ | refine sc_r (L_load_el (by rfl) (by infer_instance) (by infer_instance) (by omega) (by first | assumption | rfl)) (by rfl) ?_ | refine sc_r (L_load_el1 (by rfl) (by infer_instance) (by omega) (by first | assumption | rfl)) (by rfl) ?_ | refine sc_r (L_load_elf (by rfl) (by infer_instance) (by omega) (by first | assumption | rfl) (by rfl) (by rfl)) (by rfl) ?_ | refine sc_r (L_load_agg (by rfl) (by infer_instance) (by assumption) (by assumption)) (by rfl) ?_ | refine sc_r (L_load (by rfl) (by infer_instance) (by assumption)) (by rfl) ?_)
    | (refine s1_fieldAddr ?_; refine sc_r (R_fieldAddr (by rfl)) (by rfl) ?_)
    | (refine s1_assign ?_; refine sc_r (R_assign (by rfl)) (by rfl) ?_)
    | (refine s1_pick ?_; first | refine sc_r (R_pick_t (by rfl) (by rfl)) (by rfl) ?_ | refine sc_r (R_pick_f (by rfl) (by rfl)) (by rfl) ?_)
    | (refine s1_bin ?_; first | refine sc_r (R_lss (by rfl) (by rfl)) (by rfl) ?_ | refine sc_r (R_add64 (by rfl) (by rfl) (by omega)) (by rfl) ?_ | refine sc_r (R_gtr (by rfl) (by rfl)) (by rfl) ?_ | refine sc_r (R_leq (by rfl) (by rfl)) (by rfl) ?_ | refine sc_r (R_geq (by rfl) (by rfl)) (by rfl) ?_ | refine sc_r (R_eql (by rfl) (by rfl)) (by rfl) ?_ | refine sc_r (R_neq (by rfl) (by rfl)) (by rfl) ?_ | refine sc_r (R_sub64 (by rfl) (by rfl) (by omega)) (by rfl) ?_ | refine sc_r (R_mul64 (by rfl) (by rfl) (by first | assumption | omega)) (by rfl) ?_)
    | (refine s1_call ?_; first | (refine sc_c (by rfl) (C_call (by rfl) (by infer_instance) (by rfl) (by rfl) (ref18_Compare' yu x now hym hmx)) (by rfl) ?_; rintro _ _ ⟨rfl, rfl⟩) | (refine sc_w (by rfl) (W_append1 (by rfl) (by rfl) (by focus ((repeat (first | exact Rem.here | apply Rem.there)); done)) (by infer_instance) (by rfl) (by rfl) (by first | assumption | omega)) (by rfl) ?_; rintro _ _ rfl) | refine sc_r (R_len (by rfl)) (by rfl) ?_ | refine sc_r (R_len_str (by rfl)) (by rfl) ?_)
    | (refine s1_indexAddr ?_; first | refine sc_r (R_indexAddr (by rfl) (by rfl) (by omega)) (by rfl) ?_ | refine sc_r (R_indexAddr_arr (by rfl) (by rfl) (by omega)) (by rfl) ?_)
    | (refine s1_store ?_; first | (refine sc_w (by rfl) (W_storeAll (by rfl) (by rfl) (by infer_instance) (by rfl) (by rfl) (by rfl)) (by rfl) ?_; rintro _ _ ⟨rfl, rfl⟩) | (refine sc_w (by rfl) (W_storeL (by rfl) (by rfl) (by infer_instance) (by rfl) (by rfl) (by rfl)) (by rfl) ?_; rintro _ _ ⟨rfl, rfl⟩) | (refine sc_w (by rfl) (W_store1 (by rfl) (by rfl) (by infer_instance) (by rfl) (by assumption) (by rfl)) (by rfl) ?_; rintro _ _ ⟨rfl, rfl⟩))
    | (refine s1_alloc ?_; first | (refine sc_w (by rfl) W_allocA (by rfl) ?_; rintro _ _ ⟨_, rfl, rfl⟩) | (refine sc_w (by rfl) (W_alloc1 (by rfl)) (by rfl) ?_; rintro _ _ ⟨_, rfl, rfl⟩))
    | (refine s1_box ?_; first | (refine sc_w (by rfl) (W_boxA (by rfl)) (by rfl) ?_; rintro _ _ ⟨_, rfl, rfl⟩) | (refine sc_w (by rfl) (W_box1 (by rfl) (by rfl)) (by rfl) ?_; rintro _ _ ⟨_, rfl, rfl⟩))
    | (refine s1_conv ?_; first | refine sc_r (R_conv64 (by rfl) (by omega)) (by rfl) ?_)
    | (refine s1_slice ?_; first | refine sc_r (R_slice_h (by rfl) (by rfl) (by omega)) (by rfl) ?_ | refine sc_r (R_slice_l (by rfl) (by rfl) (by omega)) (by rfl) ?_ | refine sc_r (R_slice_lh (by rfl) (by rfl) (by rfl) (by omega)) (by rfl) ?_)
    | (refine s1_any ?_; first | refine sc_r (R_not (by rfl)) (by rfl) ?_ | refine sc_r (R_extract (by rfl) (by rfl)) (by rfl) ?_ | (refine sc_w (by rfl) (W_buildSlice1 (by rfl) (by rfl) (by rfl) (by rfl) (by rfl)) (by rfl) ?_; rintro _ _ ⟨_, rfl, rfl⟩) | (refine sc_w (by rfl) (W_buildSlice1s (by rfl) (by rfl)) (by rfl) ?_; rintro _ _ ⟨_, rfl, rfl⟩) | (refine sc_w (by rfl) (W_buildSlice (by rfl) (by rfl) (by rfl) (by rfl)) (by rfl) ?_; rintro _ _ ⟨_, rfl, rfl⟩) | refine sc_r (R_build (by rfl) (by rfl)) (by rfl) ?_ | refine sc_r (R_nilCheck (by rfl)) (by rfl) ?_ | refine sc_r (R_nilCheck_func (by rfl)) (by rfl) ?_ | (refine sc_w (by rfl) W_makeMap (by rfl) ?_; rintro _ _ ⟨_, rfl, rfl⟩) | refine sc_r (R_makeInterface (by rfl)) (by rfl) ?_ | refine sc_r (R_makeFunc (by rfl) (by rfl)) (by rfl) ?_)
    | refine swl_nil ?_
    | refine sx_next ?_
    | refine sw_seq ?_
    | refine sw_region ?_
    | refine sw_block ?_
    | refine swl_g_on (by rfl) (by rfl) ?_
    | refine swl_g_off (by rfl) (by rfl) (by rfl) (by rfl) ?_
    | refine swl_g_un (by rfl) (by rfl) (by rfl) ?_
    | refine swl_g_pos (by rfl) (by rfl) (by first | assumption | omega) ?_
    | refine swl_g_neg (by rfl) (by rfl) (by first | assumption | omega) ?_
    | refine swl_g_npos (by rfl) (by rfl) (by first | assumption | omega) ?_
    | refine swl_g_nneg (by rfl) (by rfl) (by first | assumption | omega) ?_
    | refine swl_g_dec (by rfl) (by rfl) (fun hp => ?_) (fun hp => ?_)
    | refine swl_g_ndec (by rfl) (by rfl) (fun hp => ?_) (fun hp => ?_)
    | refine swl_g_bool (by rfl) (by rfl) (fun hp => ?_) (fun hp => ?_)
    | refine sx_past_ret ?_
    | refine sx_past_exit ?_
    | refine sx_block_normal ?_
    | refine sx_block_ret ?_
    | refine sx_block_here ?_
    | refine sx_block_past (by rfl) ?_
    | refine sw_cond_true (by rfl) ?_
    | refine sw_cond_false (by rfl) ?_
    | refine sw_cond_pos (by rfl) (by first | assumption | omega) ?_
    | refine sw_cond_neg (by rfl) (by first | assumption | omega) ?_
    | refine sw_cond_npos (by rfl) (by first | assumption | omega) ?_
    | refine sw_cond_nneg (by rfl) (by first | assumption | omega) ?_
    | refine sw_cond_dec (by rfl) (fun hp => ?_) (fun hp => ?_)
    | refine sw_cond_not (by rfl) (fun hp => ?_) (fun hp => ?_)
    | refine sw_cond_bool (by rfl) (fun hp => ?_) (fun hp => ?_)
    | refine sw_ret ?_
    | refine sw_exit ?_
    | refine sw_skip ?_
    | refine swh_lt (by rfl) (fun _ _ => wanted_none) ?_
    | refine swh_lt (by rfl) (wanted_on (by rfl) (by rfl)) ?_
    | refine swh_off (by rfl) (by rfl) (by rfl) (by rfl) (by rfl) ?_
    | refine swh_heavy_off (by rfl) (by rfl) (by rfl) (by rfl) (by rfl) ?_
    | refine swh_un (by rfl) (by rfl) (by rfl) (by rfl) ?_
    | refine swh_heavy_un (by rfl) (by rfl) (by rfl) (by rfl) ?_
    | refine swh_hv (by rfl) (fun _ _ => wanted_none) ?_
    | refine swh_hv (by rfl) (wanted_on (by rfl) (by rfl)) ?_
    | refine swh_g_pos (by rfl) (by rfl) (by rfl) (by first | assumption | omega) ?_
    | refine swh_g_neg (by rfl) (by rfl) (by rfl) (by first | assumption | omega) ?_
    | refine swh_g_npos (by rfl) (by rfl) (by rfl) (by first | assumption | omega) ?_
    | refine swh_g_nneg (by rfl) (by rfl) (by rfl) (by first | assumption | omega) ?_
    | refine swh_g_dec (by rfl) (by rfl) (by rfl) (fun hp => ?_) (fun hp => ?_)
    | refine swh_g_ndec (by rfl) (by rfl) (by rfl) (fun hp => ?_) (fun hp => ?_)
    | refine swh_g_bool (by rfl) (by rfl) (by rfl) (fun hp => ?_) (fun hp => ?_)
    | refine swh_nil ?_
    | (apply And.intro; focus ((repeat (first | exact Ent.refl _ | exact Ent.nil | (apply Ent.pick; focus ((repeat (first | exact Rem.here | apply Rem.there)); done)) | apply Ent.drop)); done))
    | (refine sw_draw [(0, true), (1, true), (2, true), (3, true), (4, true), (5, true), (6, true), (7, true), (8, true), (9, false), (10, true)] follows ?_ ?_ ?_; (focus rfl); (focus (decide +kernel))))
        · refine sx_back (k + 1, _) (by first | (simp only; omega) | omega) (by first | (simp only; omega) | omega) (subE.cons rfl (subE.cons rfl (subE.cons rfl (subE.cons rfl (subE.cons rfl (subE.cons rfl (subE.cons rfl (subE.cons rfl subE.nil)))))))) ?_
          dsimp only
          rw [hfs, hyl, decide_eq_true hp, if_pos rfl, List.map_append]
          (repeat (first | exact Ent.refl _ | exact Ent.nil | (apply Ent.pick; focus ((repeat (first | exact Rem.here | apply Rem.there)); done)) | apply Ent.drop))
        · refine sx_back (k + 1, _) (by first | (simp only; omega) | omega) (by first | (simp only; omega) | omega) (subE.cons rfl (subE.cons rfl (subE.cons rfl (subE.cons rfl (subE.cons rfl (subE.cons rfl (subE.cons rfl (subE.cons rfl subE.nil)))))))) ?_
          dsimp only
          rw [hfs, hyl, decide_eq_false hp, if_neg (by simp), List.append_nil]
          (repeat (first | exact Ent.refl _ | exact Ent.nil | (apply Ent.pick; focus ((repeat (first | exact Rem.here | apply Rem.there)); done)) | apply Ent.drop))
      · repeat' (first
    | refine swl_op ?_
    | (refine s1_move ?_; refine sc_r (R_move (by rfl)) (by rfl) ?_)
    | (refine s1_load ?_; first | refine sc_r (L_load' (by rfl) (by infer_instance) (by rfl)) (by rfl) ?_ | refine sc_r (L_load_all (by rfl) (by infer_instance) (by rfl)) (by rfl) ?_ | refine sc_r (L_load_el (by rfl) (by infer_instance) (by infer_instance) (by omega) (by first | assumption | rfl)) (by rfl) ?_ | refine sc_r (L_load_el1 (by rfl) (by infer_instance) (by omega) (by first | assumption | rfl)) (by rfl) ?_ | refine sc_r (L_load_elf (by rfl) (by infer_instance) (by omega) (by first | assumption | rfl) (by rfl) (by rfl)) (by rfl) ?_ | refine sc_r (L_load_agg (by rfl) (by infer_instance) (by assumption) (by assumption)) (by rfl) ?_ | refine sc_r (L_load (by rfl) (by infer_instance) (by assumption)) (by rfl) ?_)
    | (refine s1_fieldAddr ?_; refine sc_r (R_fieldAddr (by rfl)) (by rfl) ?_)
    | (refine s1_assign ?_; refine sc_r (R_assign (by rfl)) (by rfl) ?_)
    | (refine s1_pick ?_; first | refine sc_r (R_pick_t (by rfl) (by rfl)) (by rfl) ?_ | refine sc_r (R_pick_f (by rfl) (by rfl)) (by rfl) ?_)
    | (refine s1_bin ?_; first | refine sc_r (R_lss (by rfl) (by rfl)) (by rfl) ?_ | refine sc_r (R_add64 (by rfl) (by rfl) (by omega)) (by rfl) ?_ | refine sc_r (R_gtr (by rfl) (by rfl)) (by rfl) ?_ | refine sc_r (R_leq (by rfl) (by rfl)) (by rfl) ?_ | refine sc_r (R_geq (by rfl) (by rfl)) (by rfl) ?_ | refine sc_r (R_eql (by rfl) (by rfl)) (by rfl) ?_ | refine sc_r (R_neq (by rfl) (by rfl)) (by rfl) ?_ | refine sc_r (R_sub64 (by rfl) (by rfl) (by omega)) (by rfl) ?_ | refine sc_r (R_mul64 (by rfl) (by rfl) (by first | assumption | omega)) (by rfl) ?_)
    | (refine s1_call ?_; first | (refine sc_w (by rfl) (W_append1 (by rfl) (by rfl) (by focus ((repeat (first | exact Rem.here | apply Rem.there)); done)) (by infer_instance) (by rfl) (by rfl) (by first | assumption | omega)) (by rfl) ?_; rintro _ _ rfl) | refine sc_r (R_len (by rfl)) (by rfl) ?_ | refine sc_r (R_len_str (by rfl)) (by rfl) ?_)
    | (refine s1_indexAddr ?_; first | refine sc_r (R_indexAddr (by rfl) (by rfl) (by omega)) (by rfl) ?_ | refine sc_r (R_indexAddr_arr (by rfl) (by rfl) (by omega)) (by rfl) ?_)
    | (refine s1_store ?_; first | (refine sc_w (by rfl) (W_storeAll (by rfl) (by rfl) (by infer_instance) (by rfl) (by rfl) (by rfl)) (by rfl) ?_; rintro _ _ ⟨rfl, rfl⟩) | (refine sc_w (by rfl) (W_storeL (by rfl) (by rfl) (by infer_instance) (by rfl) (by rfl) (by rfl)) (by rfl) ?_; rintro _ _ ⟨rfl, rfl⟩) | (refine sc_w (by rfl) (W_store1 (by rfl) (by rfl) (by infer_instance) (by rfl) (by assumption) (by rfl)) (by rfl) ?_; rintro _ _ ⟨rfl, rfl⟩))
    | (refine s1_alloc ?_; first | (refine sc_w (by rfl) W_allocA (by rfl) ?_; rintro _ _ ⟨_, rfl, rfl⟩) | (refine sc_w (by rfl) (W_alloc1 (by rfl)) (by rfl) ?_; rintro _ _ ⟨_, rfl, rfl⟩))
    | (refine s1_box ?_; first | (refine sc_w (by rfl) (W_boxA (by rfl)) (by rfl) ?_; rintro _ _ ⟨_, rfl, rfl⟩) | (refine sc_w (by rfl) (W_box1 (by rfl) (by rfl)) (by rfl) ?_; rintro _ _ ⟨_, rfl, rfl⟩))
    | (refine s1_conv ?_; first | refine sc_r (R_conv64 (by rfl) (by omega)) (by rfl) ?_)
    | (refine s1_slice ?_; first | refine sc_r (R_slice_h (by rfl) (by rfl) (by omega)) (by rfl) ?_ | refine sc_r (R_slice_l (by rfl) (by rfl) (by omega)) (by rfl) ?_ | refine sc_r (R_slice_lh (by rfl) (by rfl) (by rfl) (by omega)) (by rfl) ?_)
    | (refine s1_any ?_; first | refine sc_r (R_not (by rfl)) (by rfl) ?_ | refine sc_r (R_extract (by rfl) (by rfl)) (by rfl) ?_ | (refine sc_w (by rfl) (W_buildSlice1 (by rfl) (by rfl) (by rfl) (by rfl) (by rfl)) (by rfl) ?_; rintro _ _ ⟨_, rfl, rfl⟩) | (refine sc_w (by rfl) (W_buildSlice1s (by rfl) (by rfl)) (by rfl) ?_; rintro _ _ ⟨_, rfl, rfl⟩) | (refine sc_w (by rfl) (W_buildSlice (by rfl) (by rfl) (by rfl) (by rfl)) (by rfl) ?_; rintro _ _ ⟨_, rfl, rfl⟩) | refine sc_r (R_build (by rfl) (by rfl)) (by rfl) ?_ | refine sc_r (R_nilCheck (by rfl)) (by rfl) ?_ | refine sc_r (R_nilCheck_func (by rfl)) (by rfl) ?_ | (refine sc_w (by rfl) W_makeMap (by rfl) ?_; rintro _ _ ⟨_, rfl, rfl⟩) | refine sc_r (R_makeInterface (by rfl)) (by rfl) ?_ | refine sc_r (R_makeFunc (by rfl) (by rfl)) (by rfl) ?_)
    | refine swl_nil ?_
    | refine sx_next ?_
    | refine sw_seq ?_
    | refine sw_region ?_
    | refine sw_block ?_
    | refine swl_g_on (by rfl) (by rfl) ?_
    | refine swl_g_off (by rfl) (by rfl) (by rfl) (by rfl) ?_
    | refine swl_g_un (by rfl) (by rfl) (by rfl) ?_
    | refine swl_g_pos (by rfl) (by rfl) (by first | assumption | omega) ?_
    | refine swl_g_neg (by rfl) (by rfl) (by first | assumption | omega) ?_
    | refine swl_g_npos (by rfl) (by rfl) (by first | assumption | omega) ?_
    | refine swl_g_nneg (by rfl) (by rfl) (by first | assumption | omega) ?_
    | refine swl_g_dec (by rfl) (by rfl) (fun hp => ?_) (fun hp => ?_)
    | refine swl_g_ndec (by rfl) (by rfl) (fun hp => ?_) (fun hp => ?_)
    | refine swl_g_bool (by rfl) (by rfl) (fun hp => ?_) (fun hp => ?_)
    | refine sx_past_ret ?_
    | refine sx_past_exit ?_
    | refine sx_block_normal ?_
    | refine sx_block_ret ?_
    | refine sx_block_here ?_
    | refine sx_block_past (by rfl) ?_
    | refine sw_cond_true (by rfl) ?_
    | refine sw_cond_false (by rfl) ?_
    | refine sw_cond_pos (by rfl) (by first | assumption | omega) ?_
    | refine sw_cond_neg (by rfl) (by first | assumption | omega) ?_
    | refine sw_cond_npos (by rfl) (by first | assumption | omega) ?_
    | refine sw_cond_nneg (by rfl) (by first | assumption | omega) ?_
    | refine sw_cond_dec (by rfl) (fun hp => ?_) (fun hp => ?_)
    | refine sw_cond_not (by rfl) (fun hp => ?_) (fun hp => ?_)
    | refine sw_cond_bool (by rfl) (fun hp => ?_) (fun hp => ?_)
    | refine sw_ret ?_
    | refine sw_exit ?_
    | refine sw_skip ?_)
        rename_i vn2
        rw [show O.take k = O from List.take_of_length_le (by omega)]
        refine sw_loop (γ := Nat × Value) (fun k => O.length - k.1) (fun k => [(0, .slice (some ⟨b1, o1, none⟩) n cp), (1, .slice q m cq), (2, .int .i64 now), (8, .slice po O.length co), (9, .int .i64 g), (10, .pointer (some ⟨bx, 0, none⟩)), (11, k.2), (13, .int .i64 k.1)])
          (fun k => vec 3 1 (((O.filter fun y => leG us now y ⟨g, hl1⟩) ++ [(⟨g, hl1⟩ : Fin us.length)] ++ ((O.take k.1).filter fun y => !leG us now y ⟨g, hl1⟩)).map fcell) k.2 :: pt bx (.cells x.cells 40) :: vec 3 1 (O.map fcell) (.slice po O.length co) :: L) (fun k => k.1 ≤ O.length) (0, vn2) (by simp)
          (by exact (subE.cons rfl (subE.cons rfl (subE.cons rfl (subE.cons rfl (subE.cons rfl (subE.cons rfl (subE.cons rfl (subE.cons rfl subE.nil))))))))) (by simp only [List.take_zero, List.filter_nil, List.append_nil, List.map_append, List.map_cons, List.map_nil]; (repeat (first | exact Ent.refl _ | exact Ent.nil | (apply Ent.pick; focus ((repeat (first | exact Rem.here | apply Rem.there)); done)) | apply Ent.drop))) ?_
        rintro ⟨k2, vn3⟩ hk2
        dsimp only at hk2 ⊢
        by_cases hko2 : k2 < O.length
        · obtain ⟨b2, o2, rfl⟩ := hf.ptr (by omega)
          have he2 := fcell_get hko2
          have hfs := filt_take_succ (fun y => !leG us now y ⟨g, hl1⟩) hko2
          have hyg := hrl.1 _ (List.getElem_mem hko2)
          have hyl := hask _ hyg
          have hym := hmg us[O[k2]] (List.mem_take_iff_getElem.2 ⟨(O[k2] : Nat), by have := (O[k2]).2; omega, rfl⟩)
          have he3 := uses_get (l := us) (g := (O[k2] : Nat)) (O[k2]).2
          have hgy : us[(O[k2] : Nat)]'(O[k2]).2 = us[O[k2]] := rfl
          rw [hgy] at he3
          clear hgy
          have hfl2 : (((O.filter fun y => leG us now y ⟨g, hl1⟩) ++ [(⟨g, hl1⟩ : Fin us.length)] ++ ((O.take k2).filter fun y => !leG us now y ⟨g, hl1⟩)).map fcell).length ≤ 3000 := by
            have h1 := List.length_filter_le (fun y => leG us now y ⟨g, hl1⟩) O
            have h2 := List.length_filter_le (fun y => !leG us now y ⟨g, hl1⟩) (O.take k2)
            rw [List.length_take] at h2
            simp only [List.length_map, List.length_append, List.length_cons, List.length_nil]; omega
          generalize us[O[k2]] = yu at *
          have hyn := (O[k2]).2
          generalize O[k2] = y at *
          repeat' (first
    | refine swl_op ?_
    | (refine s1_move ?_; refine sc_r (R_move (by rfl)) (by rfl) ?_)
    | (refine s1_load ?_; first | refine sc_r (L_load' (by rfl) (by infer_instance) (by rfl)) (by rfl) ?_ | refine sc_r (L_load_all (by rfl) (by infer_instance) (by rfl)) (by rfl) ?_ | refine sc_r (L_load_el (by rfl) (by infer_instance) (by infer_instance) (by omega) (by first | assumption | rfl)) (by rfl) ?_ | refine sc_r (L_load_el1 (by rfl) (by infer_instance) (by omega) (by first | assumption | rfl)) (by rfl) ?_ | refine sc_r (L_load_elf (by rfl) (by infer_instance) (by omega) (by first | assumption | rfl) (by rfl) (by rfl)) (by rfl) ?_ | refine sc_r (L_load_agg (by rfl) (by infer_instance) (by assumption) (by assumption)) (by rfl) ?_ | refine sc_r (L_load (by rfl) (by infer_instance) (by assumption)) (by rfl) ?_)
    | (refine s1_fieldAddr ?_; refine sc_r (R_fieldAddr (by rfl)) (by rfl) ?_)
    | (refine s1_assign ?_; refine sc_r (R_assign (by rfl)) (by rfl) ?_)
    | (refine s1_pick ?_; first | refine sc_r (R_pick_t (by rfl) (by rfl)) (by rfl) ?_ | refine sc_r (R_pick_f (by rfl) (by rfl)) (by rfl) ?_)
    | (refine s1_bin ?_; first | refine sc_r (R_lss (by rfl) (by rfl)) (by rfl) ?_ | refine sc_r (R_add64 (by rfl) (by rfl) (by omega)) (by rfl) ?_ | refine sc_r (R_gtr (by rfl) (by rfl)) (by rfl) ?_ | refine sc_r (R_leq (by rfl) (by rfl)) (by rfl) ?_ | refine sc_r (R_geq (by rfl) (by rfl)) (by rfl) ?_ | refine sc_r (R_eql (by rfl) (by rfl)) (by rfl) ?_ | refine sc_r (R_neq (by rfl) (by rfl)) (by rfl) ?_ | refine sc_r (R_sub64 (by rfl) (by rfl) (by omega)) (by rfl) ?_ | refine sc_r (R_mul64 (by rfl) (by rfl) (by first | assumption | omega)) (by rfl) ?_)
    | (refine s1_call ?_; first | (refine sc_c (by rfl) (C_call (by rfl) (by infer_instance) (by rfl) (by rfl) (ref18_Compare' yu x now hym hmx)) (by rfl) ?_; rintro _ _ ⟨rfl, rfl⟩) | (refine sc_w (by rfl) (W_append1 (by rfl) (by rfl) (by focus ((repeat (first | exact Rem.here | apply Rem.there)); done)) (by infer_instance) (by rfl) (by rfl) (by first | assumption | omega)) (by rfl) ?_; rintro _ _ rfl) | refine sc_r (R_len (by rfl)) (by rfl) ?_ | refine sc_r (R_len_str (by rfl)) (by rfl) ?_)
    | (refine s1_indexAddr ?_; first | refine sc_r (R_indexAddr (by rfl) (by rfl) (by omega)) (by rfl) ?_ | refine sc_r (R_indexAddr_arr (by rfl) (by rfl) (by omega)) (by rfl) ?_)
    | (refine s1_store ?_; first | (refine sc_w (by rfl) (W_storeAll (by rfl) (by rfl) (by infer_instance) (by rfl) (by rfl) (by rfl)) (by rfl) ?_; rintro _ _ ⟨rfl, rfl⟩) | (refine sc_w (by rfl) (W_storeL (by rfl) (by rfl) (by infer_instance) (by rfl) (by rfl) (by rfl)) (by rfl) ?_; rintro _ _ ⟨rfl, rfl⟩) | (refine sc_w (by rfl) (W_store1 (by rfl) (by rfl) (by infer_instance) (by rfl) (by assumption) (by rfl)) (by rfl) ?_; rintro _ _ ⟨rfl, rfl⟩))
    | (refine s1_alloc ?_; first | (refine sc_w (by rfl) W_allocA (by rfl) ?_; rintro _ _ ⟨_, rfl, rfl⟩) | (refine sc_w (by rfl) (W_alloc1 (by rfl)) (by rfl) ?_; rintro _ _ ⟨_, rfl, rfl⟩))
    | (refine s1_box ?_; first | (refine sc_w (by rfl) (W_boxA (by rfl)) (by rfl) ?_; rintro _ _ ⟨_, rfl, rfl⟩) | (refine sc_w (by rfl) (W_box1 (by rfl) (by rfl)) (by rfl) ?_; rintro _ _ ⟨_, rfl, rfl⟩))
    | (refine s1_conv ?_; first | refine sc_r (R_conv64 (by rfl) (by omega)) (by rfl) ?_)
    | (refine s1_slice ?_; first | refine sc_r (R_slice_h (by rfl) (by rfl) (by omega)) (by rfl) ?_ | refine sc_r (R_slice_l (by rfl) (by rfl) (by omega)) (by rfl) ?_ | refine sc_r (R_slice_lh (by rfl) (by rfl) (by rfl) (by omega)) (by rfl) ?_)
    | (refine s1_any ?_; first | refine sc_r (R_not (by rfl)) (by rfl) ?_ | refine sc_r (R_extract (by rfl) (by rfl)) (by rfl) ?_ | (refine sc_w (by rfl) (W_buildSlice1 (by rfl) (by rfl) (by rfl) (by rfl) (by rfl)) (by rfl) ?_; rintro _ _ ⟨_, rfl, rfl⟩) | (refine sc_w (by rfl) (W_buildSlice1s (by rfl) (by rfl)) (by rfl) ?_; rintro _ _ ⟨_, rfl, rfl⟩) | (refine sc_w (by rfl) (W_buildSlice (by rfl) (by rfl) (by rfl) (by rfl)) (by rfl) ?_; rintro _ _ ⟨_, rfl, rfl⟩) | refine sc_r (R_build (by rfl) (by rfl)) (by rfl) ?_ | refine sc_r (R_nilCheck (by rfl)) (by rfl) ?_ | refine sc_r (R_nilCheck_func (by rfl)) (by rfl) ?_ | (refine sc_w (by rfl) W_makeMap (by rfl) ?_; rintro _ _ ⟨_, rfl, rfl⟩) | refine sc_r (R_makeInterface (by rfl)) (by rfl) ?_ | refine sc_r (R_makeFunc (by rfl) (by rfl)) (by rfl) ?_)
    | refine swl_nil ?_
    | refine sx_next ?_
    | refine sw_seq ?_
    | refine sw_region ?_
    | refine sw_block ?_
    | refine swl_g_on (by rfl) (by rfl) ?_
    | refine swl_g_off (by rfl) (by rfl) (by rfl) (by rfl) ?_
    | refine swl_g_un (by rfl) (by rfl) (by rfl) ?_
    | refine swl_g_pos (by rfl) (by rfl) (by first | assumption | omega) ?_
    | refine swl_g_neg (by rfl) (by rfl) (by first | assumption | omega) ?_
    | refine swl_g_npos (by rfl) (by rfl) (by first | assumption | omega) ?_
    | refine swl_g_nneg (by rfl) (by rfl) (by first | assumption | omega) ?_
    | refine swl_g_dec (by rfl) (by rfl) (fun hp => ?_) (fun hp => ?_)
    | refine swl_g_ndec (by rfl) (by rfl) (fun hp => ?_) (fun hp => ?_)
    | refine swl_g_bool (by rfl) (by rfl) (fun hp => ?_) (fun hp => ?_)
    | refine sx_past_ret ?_
    | refine sx_past_exit ?_
    | refine sx_block_normal ?_
    | refine sx_block_ret ?_
    | refine sx_block_here ?_
    | refine sx_block_past (by rfl) ?_
    | refine sw_cond_true (by rfl) ?_
    | refine sw_cond_false (by rfl) ?_
    | refine sw_cond_pos (by rfl) (by first | assumption | omega) ?_
    | refine sw_cond_neg (by rfl) (by first | assumption | omega) ?_
    | refine sw_cond_npos (by rfl) (by first | assumption | omega) ?_
    | refine sw_cond_nneg (by rfl) (by first | assumption | omega) ?_
    | refine sw_cond_dec (by rfl) (fun hp => ?_) (fun hp => ?_)
    | refine sw_cond_not (by rfl) (fun hp => ?_) (fun hp => ?_)
    | refine sw_cond_bool (by rfl) (fun hp => ?_) (fun hp => ?_)
    | refine sw_ret ?_
    | refine sw_exit ?_
    | refine sw_skip ?_
    | refine swh_lt (by rfl) (fun _ _ => wanted_none) ?_
    | refine swh_lt (by rfl) (wanted_on (by rfl) (by rfl)) ?_
    | refine swh_off (by rfl) (by rfl) (by rfl) (by rfl) (by rfl) ?_
    | refine swh_heavy_off (by rfl) (by rfl) (by rfl) (by rfl) (by rfl) ?_
    | refine swh_un (by rfl) (by rfl) (by rfl) (by rfl) ?_
    | refine swh_heavy_un (by rfl) (by rfl) (by rfl) (by rfl) ?_
    | refine swh_hv (by rfl) (fun _ _ => wanted_none) ?_
    | refine swh_hv (by rfl) (wanted_on (by rfl) (by rfl)) ?_
    | refine swh_g_pos (by rfl) (by rfl) (by rfl) (by first | assumption | omega) ?_
    | refine swh_g_neg (by rfl) (by rfl) (by rfl) (by first | assumption | omega) ?_
    | refine swh_g_npos (by rfl) (by rfl) (by rfl) (by first | assumption | omega) ?_
    | refine swh_g_nneg (by rfl) (by rfl) (by rfl) (by first | assumption | omega) ?_
    | refine swh_g_dec (by rfl) (by rfl) (by rfl) (fun hp => ?_) (fun hp => ?_)
    | refine swh_g_ndec (by rfl) (by rfl) (by rfl) (fun hp => ?_) (fun hp => ?_)
    | refine swh_g_bool (by rfl) (by rfl) (by rfl) (fun hp => ?_) (fun hp => ?_)
    | refine swh_nil ?_
    | (apply And.intro; focus ((repeat (first | exact Ent.refl _ | exact Ent.nil | (apply Ent.pick; focus ((repeat (first | exact Rem.here | apply Rem.there)); done)) | apply Ent.drop)); done))
    | (refine sw_draw [(0, true), (1, true), (2, true), (3, true), (4, true), (5, true), (6, true), (7, true), (8, true), (9, false), (10, true)] follows ?_ ?_ ?_; (focus rfl); (focus (decide +kernel))))
          --DBG
          · refine sx_back (k2 + 1, _) (by first | (simp only; omega) | omega) (by first | (simp only; omega) | omega) (subE.cons rfl (subE.cons rfl (subE.cons rfl (subE.cons rfl (subE.cons rfl (subE.cons rfl (subE.cons rfl (subE.cons rfl subE.nil)))))))) ?_
            dsimp only
            rw [hfs, hyl, decide_eq_false (by omega), if_pos (by simp), ← List.append_assoc, List.map_append (l₂ := [y])]
            (repeat (first | exact Ent.refl _ | exact Ent.nil | (apply Ent.pick; focus ((repeat (first | exact Rem.here | apply Rem.there)); done)) | apply Ent.drop))
          · refine sx_back (k2 + 1, _) (by first | (simp only; omega) | omega) (by first | (simp only; omega) | omega) (subE.cons rfl (subE.cons rfl (subE.cons rfl (subE.cons rfl (subE.cons rfl (subE.cons rfl (subE.cons rfl (subE.cons rfl subE.nil)))))))) ?_
            dsimp only
            rw [hfs, hyl, decide_eq_true (by omega), if_neg (by simp), List.append_nil]
            (repeat (first | exact Ent.refl _ | exact Ent.nil | (apply Ent.pick; focus ((repeat (first | exact Rem.here | apply Rem.there)); done)) | apply Ent.drop))
        · repeat' (first
    | refine swl_op ?_
    | (refine s1_move ?_; refine sc_r (R_move (by rfl)) (by rfl) ?_)
    | (refine s1_load ?_; first | refine sc_r (L_load' (by rfl) (by infer_instance) (by rfl)) (by rfl) ?_ | refine sc_r (L_load_all (by rfl) (by infer_instance) (by rfl)) (by rfl) ?_ | refine sc_r (L_load_el (by rfl) (by infer_instance) (by infer_instance) (by omega) (by first | assumption | rfl)) (by rfl) ?_ | refine sc_r (L_load_el1 (by rfl) (by infer_instance) (by omega) (by first | assumption | rfl)) (by rfl) ?_ | refine sc_r (L_load_elf (by rfl) (by infer_instance) (by omega) (by first | assumption | rfl) (by rfl) (by rfl)) (by rfl) ?_ | refine sc_r (L_load_agg (by rfl) (by infer_instance) (by assumption) (by assumption)) (by rfl) ?_ | refine sc_r (L_load (by rfl) (by infer_instance) (by assumption)) (by rfl) ?_)
    | (refine s1_fieldAddr ?_; refine sc_r (R_fieldAddr (by rfl)) (by rfl) ?_)
    | (refine s1_assign ?_; refine sc_r (R_assign (by rfl)) (by rfl) ?_)
    | (refine s1_pick ?_; first | refine sc_r (R_pick_t (by rfl) (by rfl)) (by rfl) ?_ | refine sc_r (R_pick_f (by rfl) (by rfl)) (by rfl) ?_)
    | (refine s1_bin ?_; first | refine sc_r (R_lss (by rfl) (by rfl)) (by rfl) ?_ | refine sc_r (R_add64 (by rfl) (by rfl) (by omega)) (by rfl) ?_ | refine sc_r (R_gtr (by rfl) (by rfl)) (by rfl) ?_ | refine sc_r (R_leq (by rfl) (by rfl)) (by rfl) ?_ | refine sc_r (R_geq (by rfl) (by rfl)) (by rfl) ?_ | refine sc_r (R_eql (by rfl) (by rfl)) (by rfl) ?_ | refine sc_r (R_neq (by rfl) (by rfl)) (by rfl) ?_ | refine sc_r (R_sub64 (by rfl) (by rfl) (by omega)) (by rfl) ?_ | refine sc_r (R_mul64 (by rfl) (by rfl) (by first | assumption | omega)) (by rfl) ?_)
    | (refine s1_call ?_; first | (refine sc_w (by rfl) (W_append1 (by rfl) (by rfl) (by focus ((repeat (first | exact Rem.here | apply Rem.there)); done)) (by infer_instance) (by rfl) (by rfl) (by first | assumption | omega)) (by rfl) ?_; rintro _ _ rfl) | refine sc_r (R_len (by rfl)) (by rfl) ?_ | refine sc_r (R_len_str (by rfl)) (by rfl) ?_)
    | (refine s1_indexAddr ?_; first | refine sc_r (R_indexAddr (by rfl) (by rfl) (by omega)) (by rfl) ?_ | refine sc_r (R_indexAddr_arr (by rfl) (by rfl) (by omega)) (by rfl) ?_)
    | (refine s1_store ?_; first | (refine sc_w (by rfl) (W_storeAll (by rfl) (by rfl) (by infer_instance) (by rfl) (by rfl) (by rfl)) (by rfl) ?_; rintro _ _ ⟨rfl, rfl⟩) | (refine sc_w (by rfl) (W_storeL (by rfl) (by rfl) (by infer_instance) (by rfl) (by rfl) (by rfl)) (by rfl) ?_; rintro _ _ ⟨rfl, rfl⟩) | (refine sc_w (by rfl) (W_store1 (by rfl) (by rfl) (by infer_instance) (by rfl) (by assumption) (by rfl)) (by rfl) ?_; rintro _ _ ⟨rfl, rfl⟩))
    | (refine s1_alloc ?_; first | (refine sc_w (by rfl) W_allocA (by rfl) ?_; rintro _ _ ⟨_, rfl, rfl⟩) | (refine sc_w (by rfl) (W_alloc1 (by rfl)) (by rfl) ?_; rintro _ _ ⟨_, rfl, rfl⟩))
    | (refine s1_box ?_; first | (refine sc_w (by rfl) (W_boxA (by rfl)) (by rfl) ?_; rintro _ _ ⟨_, rfl, rfl⟩) | (refine sc_w (by rfl) (W_box1 (by rfl) (by rfl)) (by rfl) ?_; rintro _ _ ⟨_, rfl, rfl⟩))
    | (refine s1_conv ?_; first | refine sc_r (R_conv64 (by rfl) (by omega)) (by rfl) ?_)
    | (refine s1_slice ?_; first | refine sc_r (R_slice_h (by rfl) (by rfl) (by omega)) (by rfl) ?_ | refine sc_r (R_slice_l (by rfl) (by rfl) (by omega)) (by rfl) ?_ | refine sc_r (R_slice_lh (by rfl) (by rfl) (by rfl) (by omega)) (by rfl) ?_)
    | (refine s1_any ?_; first | refine sc_r (R_not (by rfl)) (by rfl) ?_ | refine sc_r (R_extract (by rfl) (by rfl)) (by rfl) ?_ | (refine sc_w (by rfl) (W_buildSlice1 (by rfl) (by rfl) (by rfl) (by rfl) (by rfl)) (by rfl) ?_; rintro _ _ ⟨_, rfl, rfl⟩) | (refine sc_w (by rfl) (W_buildSlice1s (by rfl) (by rfl)) (by rfl) ?_; rintro _ _ ⟨_, rfl, rfl⟩) | (refine sc_w (by rfl) (W_buildSlice (by rfl) (by rfl) (by rfl) (by rfl)) (by rfl) ?_; rintro _ _ ⟨_, rfl, rfl⟩) | refine sc_r (R_build (by rfl) (by rfl)) (by rfl) ?_ | refine sc_r (R_nilCheck (by rfl)) (by rfl) ?_ | refine sc_r (R_nilCheck_func (by rfl)) (by rfl) ?_ | (refine sc_w (by rfl) W_makeMap (by rfl) ?_; rintro _ _ ⟨_, rfl, rfl⟩) | refine sc_r (R_makeInterface (by rfl)) (by rfl) ?_ | refine sc_r (R_makeFunc (by rfl) (by rfl)) (by rfl) ?_)
    | refine swl_nil ?_
    | refine sx_next ?_
    | refine sw_seq ?_
    | refine sw_region ?_
    | refine sw_block ?_
    | refine swl_g_on (by rfl) (by rfl) ?_
    | refine swl_g_off (by rfl) (by rfl) (by rfl) (by rfl) ?_
    | refine swl_g_un (by rfl) (by rfl) (by rfl) ?_
    | refine swl_g_pos (by rfl) (by rfl) (by first | assumption | omega) ?_
    | refine swl_g_neg (by rfl) (by rfl) (by first | assumption | omega) ?_
    | refine swl_g_npos (by rfl) (by rfl) (by first | assumption | omega) ?_
    | refine swl_g_nneg (by rfl) (by rfl) (by first | assumption | omega) ?_
    | refine swl_g_dec (by rfl) (by rfl) (fun hp => ?_) (fun hp => ?_)
    | refine swl_g_ndec (by rfl) (by rfl) (fun hp => ?_) (fun hp => ?_)
    | refine swl_g_bool (by rfl) (by rfl) (fun hp => ?_) (fun hp => ?_)
    | refine sx_past_ret ?_
    | refine sx_past_exit ?_
    | refine sx_block_normal ?_
    | refine sx_block_ret ?_
    | refine sx_block_here ?_
    | refine sx_block_past (by rfl) ?_
    | refine sw_cond_true (by rfl) ?_
    | refine sw_cond_false (by rfl) ?_
    | refine sw_cond_pos (by rfl) (by first | assumption | omega) ?_
    | refine sw_cond_neg (by rfl) (by first | assumption | omega) ?_
    | refine sw_cond_npos (by rfl) (by first | assumption | omega) ?_
    | refine sw_cond_nneg (by rfl) (by first | assumption | omega) ?_
    | refine sw_cond_dec (by rfl) (fun hp => ?_) (fun hp => ?_)
    | refine sw_cond_not (by rfl) (fun hp => ?_) (fun hp => ?_)
    | refine sw_cond_bool (by rfl) (fun hp => ?_) (fun hp => ?_)
    | refine sw_ret ?_
    | refine sw_exit ?_
    | refine sw_skip ?_)
          refine sx_back (g + 1, _) (by first | (simp only; omega) | omega) ⟨by first | (simp only; omega) | omega, hmg1⟩ (subE.cons rfl (subE.cons rfl (subE.cons rfl (subE.cons rfl (subE.cons rfl subE.nil))))) ?_
          dsimp only
          rw [hts, insG, show O.take k2 = O from List.take_of_length_le (by omega)]
          (repeat (first | exact Ent.refl _ | exact Ent.nil | (apply Ent.pick; focus ((repeat (first | exact Rem.here | apply Rem.there)); done)) | apply Ent.drop))
  · repeat' (first
    | refine swl_op ?_
    | (refine s1_move ?_; refine sc_r (R_move (by rfl)) (by rfl) ?_)
    | (refine s1_load ?_; first | refine sc_r (L_load' (by rfl) (by infer_instance) (by rfl)) (by rfl) ?_ | refine sc_r (L_load_all (by rfl) (by infer_instance) (by rfl)) (by rfl) ?_ | refine sc_r (L_load_el (by rfl) (by infer_instance) (by infer_instance) (by omega) (by first | assumption | rfl)) (by rfl) ?_ | refine sc_r (L_load_el1 (by rfl) (by infer_instance) (by omega) (by first | assumption | rfl)) (by rfl) ?_ | refine sc_r (L_load_elf (by rfl) (by infer_instance) (by omega) (by first | assumption | rfl) (by rfl) (by rfl)) (by rfl) ?_ | refine sc_r (L_load_agg (by rfl) (by infer_instance) (by assumption) (by assumption)) (by rfl) ?_ | refine sc_r (L_load (by rfl) (by infer_instance) (by assumption)) (by rfl) ?_)
    | (refine s1_fieldAddr ?_; refine sc_r (R_fieldAddr (by rfl)) (by rfl) ?_)
    | (refine s1_assign ?_; refine sc_r (R_assign (by rfl)) (by rfl) ?_)
    | (refine s1_pick ?_; first | refine sc_r (R_pick_t (by rfl) (by rfl)) (by rfl) ?_ | refine sc_r (R_pick_f (by rfl) (by rfl)) (by rfl) ?_)
    | (refine s1_bin ?_; first | refine sc_r (R_lss (by rfl) (by rfl)) (by rfl) ?_ | refine sc_r (R_add64 (by rfl) (by rfl) (by omega)) (by rfl) ?_ | refine sc_r (R_gtr (by rfl) (by rfl)) (by rfl) ?_ | refine sc_r (R_leq (by rfl) (by rfl)) (by rfl) ?_ | refine sc_r (R_geq (by rfl) (by rfl)) (by rfl) ?_ | refine sc_r (R_eql (by rfl) (by rfl)) (by rfl) ?_ | refine sc_r (R_neq (by rfl) (by rfl)) (by rfl) ?_ | refine sc_r (R_sub64 (by rfl) (by rfl) (by omega)) (by rfl) ?_ | refine sc_r (R_mul64 (by rfl) (by rfl) (by first | assumption | omega)) (by rfl) ?_)
    | (refine s1_call ?_; first | (refine sc_w (by rfl) (W_append1 (by rfl) (by rfl) (by focus ((repeat (first | exact Rem.here | apply Rem.there)); done)) (by infer_instance) (by rfl) (by rfl) (by first | assumption | omega)) (by rfl) ?_; rintro _ _ rfl) | refine sc_r (R_len (by rfl)) (by rfl) ?_ | refine sc_r (R_len_str (by rfl)) (by rfl) ?_)
    | (refine s1_indexAddr ?_; first | refine sc_r (R_indexAddr (by rfl) (by rfl) (by omega)) (by rfl) ?_ | refine sc_r (R_indexAddr_arr (by rfl) (by rfl) (by omega)) (by rfl) ?_)
    | (refine s1_store ?_; first | (refine sc_w (by rfl) (W_storeAll (by rfl) (by rfl) (by infer_instance) (by rfl) (by rfl) (by rfl)) (by rfl) ?_; rintro _ _ ⟨rfl, rfl⟩) | (refine sc_w (by rfl) (W_storeL (by rfl) (by rfl) (by infer_instance) (by rfl) (by rfl) (by rfl)) (by rfl) ?_; rintro _ _ ⟨rfl, rfl⟩) | (refine sc_w (by rfl) (W_store1 (by rfl) (by rfl) (by infer_instance) (by rfl) (by assumption) (by rfl)) (by rfl) ?_; rintro _ _ ⟨rfl, rfl⟩))
    | (refine s1_alloc ?_; first | (refine sc_w (by rfl) W_allocA (by rfl) ?_; rintro _ _ ⟨_, rfl, rfl⟩) | (refine sc_w (by rfl) (W_alloc1 (by rfl)) (by rfl) ?_; rintro _ _ ⟨_, rfl, rfl⟩))
    | (refine s1_box ?_; first | (refine sc_w (by rfl) (W_boxA (by rfl)) (by rfl) ?_; rintro _ _ ⟨_, rfl, rfl⟩) | (refine sc_w (by rfl) (W_box1 (by rfl) (by rfl)) (by rfl) ?_; rintro _ _ ⟨_, rfl, rfl⟩))
    | (refine s1_conv ?_; first | refine sc_r (R_conv64 (by rfl) (by omega)) (by rfl) ?_)
    | (refine s1_slice ?_; first | refine sc_r (R_slice_h (by rfl) (by rfl) (by omega)) (by rfl) ?_ | refine sc_r (R_slice_l (by rfl) (by rfl) (by omega)) (by rfl) ?_ | refine sc_r (R_slice_lh (by rfl) (by rfl) (by rfl) (by omega)) (by rfl) ?_)
    | (refine s1_any ?_; first | refine sc_r (R_not (by rfl)) (by rfl) ?_ | refine sc_r (R_extract (by rfl) (by rfl)) (by rfl) ?_ | (refine sc_w (by rfl) (W_buildSlice1 (by rfl) (by rfl) (by rfl) (by rfl) (by rfl)) (by rfl) ?_; rintro _ _ ⟨_, rfl, rfl⟩) | (refine sc_w (by rfl) (W_buildSlice1s (by rfl) (by rfl)) (by rfl) ?_; rintro _ _ ⟨_, rfl, rfl⟩) | (refine sc_w (by rfl) (W_buildSlice (by rfl) (by rfl) (by rfl) (by rfl)) (by rfl) ?_; rintro _ _ ⟨_, rfl, rfl⟩) | refine sc_r (R_build (by rfl) (by rfl)) (by rfl) ?_ | refine sc_r (R_nilCheck (by rfl)) (by rfl) ?_ | refine sc_r (R_nilCheck_func (by rfl)) (by rfl) ?_ | (refine sc_w (by rfl) W_makeMap (by rfl) ?_; rintro _ _ ⟨_, rfl, rfl⟩) | refine sc_r (R_makeInterface (by rfl)) (by rfl) ?_ | refine sc_r (R_makeFunc (by rfl) (by rfl)) (by rfl) ?_)
    | refine swl_nil ?_
    | refine sx_next ?_
    | refine sw_seq ?_
    | refine sw_region ?_
    | refine sw_block ?_
    | refine swl_g_on (by rfl) (by rfl) ?_
    | refine swl_g_off (by rfl) (by rfl) (by rfl) (by rfl) ?_
    | refine swl_g_un (by rfl) (by rfl) (by rfl) ?_
    | refine swl_g_pos (by rfl) (by rfl) (by first | assumption | omega) ?_
    | refine swl_g_neg (by rfl) (by rfl) (by first | assumption | omega) ?_
    | refine swl_g_npos (by rfl) (by rfl) (by first | assumption | omega) ?_
    | refine swl_g_nneg (by rfl) (by rfl) (by first | assumption | omega) ?_
    | refine swl_g_dec (by rfl) (by rfl) (fun hp => ?_) (fun hp => ?_)
    | refine swl_g_ndec (by rfl) (by rfl) (fun hp => ?_) (fun hp => ?_)
    | refine swl_g_bool (by rfl) (by rfl) (fun hp => ?_) (fun hp => ?_)
    | refine sx_past_ret ?_
    | refine sx_past_exit ?_
    | refine sx_block_normal ?_
    | refine sx_block_ret ?_
    | refine sx_block_here ?_
    | refine sx_block_past (by rfl) ?_
    | refine sw_cond_true (by rfl) ?_
    | refine sw_cond_false (by rfl) ?_
    | refine sw_cond_pos (by rfl) (by first | assumption | omega) ?_
    | refine sw_cond_neg (by rfl) (by first | assumption | omega) ?_
    | refine sw_cond_npos (by rfl) (by first | assumption | omega) ?_
    | refine sw_cond_nneg (by rfl) (by first | assumption | omega) ?_
    | refine sw_cond_dec (by rfl) (fun hp => ?_) (fun hp => ?_)
    | refine sw_cond_not (by rfl) (fun hp => ?_) (fun hp => ?_)
    | refine sw_cond_bool (by rfl) (fun hp => ?_) (fun hp => ?_)
    | refine sw_ret ?_
    | refine sw_exit ?_
    | refine sw_skip ?_)
    rw [List.take_of_length_le (by omega)] at hmg
    have hr : rankOk us now = true := by simp only [rankOk, hfit, Bool.true_and, List.all_eq_true]; exact hmg
    have hmm : (List.map (fun z => #[Value.int .i64 z]) ((rankF us busy now).map fun i : Fin us.length => ((i : Nat) : Int))) = (rankF us busy now).map fcell := by rw [List.map_map]; rfl
    rw [rankS, hr, if_pos rfl, hmm, rkF_is hmg, show (List.finRange us.length).take g = List.finRange us.length from List.take_of_length_le (by simp; omega)]
    exact sx_ret_of (res2 rfl (ResOne.tmp rfl) (ResOne.tmp rfl)) _ ⟨_, rfl, rfl⟩ (by (repeat (first | exact Ent.refl _ | exact Ent.nil | (apply Ent.pick; focus ((repeat (first | exact Rem.here | apply Rem.there)); done)) | apply Ent.drop)))
end Go.Proofs.Ytcdpiedgfkebcaa
